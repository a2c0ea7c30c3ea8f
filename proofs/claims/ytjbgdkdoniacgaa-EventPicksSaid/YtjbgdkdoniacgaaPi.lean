/- Walks, written by gen.py off the translation's own print: each says what the Go function comes to. -/
import Derived.Test.YtjbgdkdoniacgaaPh
set_option linter.unusedVariables false
set_option linter.unusedSimpArgs false
namespace Go.Proofs.Ytjbgdkdoniacgaa
open Go.Sx Go.RowKit
attribute [local irreducible] Ac Ex WL WC WX WP Gives

/- slices.Clone[[]sponsion/event.Event,sponsion/event.Event] -/
theorem cloneE_ok (w : World) (A : Option Addr) (c : Nat) (es : List Ev) (hr : RdE w A es) (hb : es.length ≤ 1000000) :
    Gives Try.prog 12 #[.slice A es.length c] w fun u w1 => New w w1 (row u 45 47 es.length ((es).flatMap evC)) := by
  have M0 := Mem.start w nof
  refine Gives.enter (n := 8) Try.func12 rfl Try.ntmps12 rfl (env := [(0, .slice A es.length c)]) rfl ?_
  refine WC.seq ?_
  refine WC.region ?_
  refine WL.ex rfl rfl rfl (Ex.asg rfl) ?_
  refine WL.nil ?_
  refine WX.next (?_)
  refine WC.seq ?_
  refine WC.seq ?_
  refine WC.region ?_
  refine WL.ex rfl rfl rfl (Ex.mv rfl) ?_
  refine WL.ex rfl rfl rfl (Ex.eqN Try.underlying22 rfl) ?_
  refine WL.nil ?_
  refine WX.next (?_)
  refine WC.cond rfl (fun hc => ?_) (fun hc => ?_)
  · have hl : es = [] := by
      cases es with
      | nil => rfl
      | cons b r => obtain ⟨b0, o0, h1⟩ := hr.plain (i := 0) (p := b) rfl; subst h1; cases hc
    subst hl
    refine WC.seq ?_
    refine WC.region ?_
    refine WL.ex rfl rfl rfl (Ex.asg rfl) ?_
    refine WL.nil ?_
    refine WX.next (?_)
    refine WC.ret ?_
    refine WX.ret_then (?_)
    refine WX.ret1 rfl rfl ?_
    first | exact M0.toNew | exact (M0.free (r := row (.slice none 0 0) 45 47 0 []) (row_nil _ _ _) rfl).toNew
  · skip
    refine WC.skip ?_
    refine WX.next (?_)
    refine WC.seq ?_
    refine WC.region ?_
    refine WL.ac rfl rfl rfl (Ac.bs0 M0 Try.underlying22 sz45) ?_; rintro v5 w5 ⟨g5, rfl, hg5, K5, M5⟩
    refine WL.ex rfl rfl rfl (Ex.mv rfl) ?_
    refine WL.ac rfl rfl rfl (Ac.app M5 el22 rfl rfl (i := 0) rfl (evs_len hr.ok) (M5.rd hr.row) (flat_one_ev _) (by omega) (by unfold maxLen; omega)) ?_; rintro v7 w7 ⟨K7, M7⟩
    try dsimp only [List.set] at M7
    simp only [Nat.zero_add, List.nil_append] at M7
    refine WL.ex rfl rfl rfl (Ex.asg rfl) ?_
    refine WL.nil ?_
    refine WX.next (?_)
    refine WC.ret ?_
    refine WX.ret1 rfl rfl ?_
    first | exact M7.toNew | exact (M7.free (r := row (.slice none 0 0) 45 47 0 []) (row_nil _ _ _) rfl).toNew

/- slices.DeleteFunc[[]sponsion/event.Event,sponsion/event.Event] -/
theorem del_ok (w : World) (A : Option Addr) (c : Nat) (es : List Ev) (fv : Value) (q : Ev → Bool) (hR : (row (.slice A es.length c) 45 47 es.length ((es).flatMap evC)).sat w) (hok : ∀ t ∈ es, EvOk t) (hb : es.length ≤ 1000000) (hq : PredV fv (Keep (· ∈ (row (.slice A es.length c) 45 47 es.length ((es).flatMap evC)).fp) w) q) :
    Gives Try.prog 11 #[.slice A es.length c, fv] w fun u w1 => Turn w w1 (row (.slice A es.length c) 45 47 es.length ((es).flatMap evC)) (row u 45 47 (dl q es).length ((dl q es).flatMap evC)) := by
  obtain ⟨FF, hFF⟩ : ∃ FF : Nat → Prop, FF = (fun b => b ∈ (row (.slice A es.length c) 45 47 es.length ((es).flatMap evC)).fp) := ⟨_, rfl⟩
  have M0 : Mem w w FF [row (.slice A es.length c) 45 47 es.length ((es).flatMap evC)] := by rw [hFF]; exact Mem.begin hR
  replace hq : PredV fv (Keep FF w) q := by rw [hFF]; exact hq
  refine Gives.enter (n := 42) Try.func11 rfl Try.ntmps11 rfl (env := [(0, .slice A es.length c), (1, fv)]) rfl ?_
  refine WC.seq ?_
  refine WC.region ?_
  refine WL.ex rfl rfl rfl (Ex.asg rfl) ?_
  refine WL.nil ?_
  refine WX.next (?_)
  refine WC.seq ?_
  refine WC.region ?_
  refine WL.ex rfl rfl rfl (Ex.mv rfl) ?_
  refine WL.ex rfl rfl rfl (Ex.mv rfl) ?_
  refine WL.ac rfl rfl rfl (Ac.call rfl Try.func26 nm26 rfl (ixF_ok w A c es fv q ⟨M0.rdr (i := 0) rfl, hok⟩ hb (fun w' t K ht => hq w' t (M0.keep.trans K.any) ht))) ?_; rintro v4 w4 ⟨rfl, K4⟩
  have M4 := M0.step K4
  refine WL.ex rfl rfl rfl (Ex.asg rfl) ?_
  refine WL.nil ?_
  refine WX.next (?_)
  refine WC.seq ?_
  refine WC.seq ?_
  refine WC.region ?_
  refine WL.ex rfl rfl rfl (Ex.mv rfl) ?_
  refine WL.ex rfl rfl rfl (Ex.eqI rfl rfl) ?_
  by_cases hno : ¬ fW q es < es.length
  · rw [if_neg hno]
    have hdn : dl q es = es := dl_none (by have := fW_le q es; omega)
    refine WL.nil ?_
    refine WX.next (?_)
    refine WC.yes rfl ?_
    refine WC.seq ?_
    refine WC.region ?_
    refine WL.ex rfl rfl rfl (Ex.mv rfl) ?_
    refine WL.ex rfl rfl rfl (Ex.asg rfl) ?_
    refine WL.nil ?_
    refine WX.next (?_)
    refine WC.ret ?_
    refine WX.ret_then (?_)
    refine WX.ret1 rfl rfl ?_
    subst hFF
    rw [hdn]
    exact (Mem.sub M4 (.refl _)).toTurn
  · replace hno := Decidable.not_not.1 hno
    rw [if_pos hno, decide_eq_false (show ¬ ((fW q es : Nat) : Int) = -1 by omega)]
    obtain ⟨g, ys, rfl, hnc, hcm, hxl, hyl, M4'⟩ := mem_rowblk M4 (i := 0) rfl (by omega)
    replace M4 := M4'
    try dsimp only [List.set] at M4
    obtain ⟨f0, hf0⟩ : ∃ f0, f0 = fW q es := ⟨_, rfl⟩
    rw [← hf0] at hno ⊢
    obtain ⟨K0, hK0⟩ : ∃ K0, K0 = es.take f0 := ⟨_, rfl⟩
    have hf1 : f0 = K0.length := by rw [hK0, List.length_take]; omega
    have hdt : dl q (es.take (K0.length + 1)) = K0 := by rw [← hf1, hK0, hf0]; exact dl_take (by omega)
    rw [hf1]
    refine WL.nil ?_
    refine WX.next (?_)
    refine WC.no rfl ?_
    refine WC.skip ?_
    refine WX.next (?_)
    refine WC.seq ?_
    refine WC.seq ?_
    refine WC.region ?_
    refine WL.ex rfl rfl rfl (Ex.mv rfl) ?_
    refine WL.ex rfl rfl rfl (Ex.add rfl rfl (i64w _ (by omega) (by omega))) ?_
    refine WL.ex rfl rfl rfl (Ex.asg rfl) ?_
    refine WL.nil ?_
    refine WX.next (?_)
    refine WC.block ?_
    refine WC.loop (σ := Nat × List Ev) (fun s => [(0, .slice (some ⟨g, 0, none⟩) es.length c), (1, fv), (5, .int .i64 (List.length s.2 : Int)), (6, .int .i64 (s.1 : Int))]) (fun s wr => s.1 ≤ es.length ∧ s.2 = dl q (es.take s.1) ∧ s.2.length < s.1 ∧ (∀ t ∈ s.2, EvOk t) ∧ Mem w wr FF [blk g ((s.2 ++ es.drop s.2.length).flatMap evC ++ ys) 45]) (fun s => es.length - s.1) (((K0.length + 1, K0) : Nat × List Ev)) ?_ (.cons rfl (.cons rfl (.cons rfl (.cons rfl (.nil))))) ?_
    · refine ⟨by dsimp only; omega, hdt.symm, by dsimp only; omega, fun t ht => hok t (by rw [hK0] at ht; exact List.mem_of_mem_take ht), ?_⟩
      dsimp only
      rw [← hf1, hK0, List.take_append_drop]
      exact M4
    rintro ⟨j, ks⟩ w13 ⟨hj, hks, hkj, hko, M13⟩
    dsimp only at hj hks hkj hko M13
    refine WC.sub (env' := [(0, .slice (some ⟨g, 0, none⟩) es.length c), (1, fv), (5, .int .i64 (List.length ks : Int)), (6, .int .i64 (j : Int))]) (.cons rfl (.cons rfl (.cons rfl (.cons rfl (.nil))))) ?_
    refine WC.seq ?_
    refine WC.seq ?_
    refine WC.region ?_
    refine WL.ex rfl rfl rfl (Ex.mv rfl) ?_
    refine WL.ex rfl rfl rfl (Ex.mv rfl) ?_
    refine WL.ex rfl rfl rfl (Ex.len Try.underlying22 rfl) ?_
    refine WL.ex rfl rfl rfl (Ex.lss rfl rfl) ?_
    refine WL.nil ?_
    refine WX.next (?_)
    refine WC.cond_dec rfl (fun hc19 => ?_) (fun hc19 => ?_)
    · obtain ⟨p, hpi⟩ : ∃ p, es[j]? = some p := ⟨_, List.getElem?_eq_getElem (by omega)⟩
      have hpo := hok p (List.mem_of_getElem? hpi)
      have hDo : ∀ t ∈ ks ++ es.drop ks.length, EvOk t := fun t ht => (List.mem_append.1 ht).elim (hko t) (fun h => hok t (List.mem_of_mem_drop h))
      have hDl : (ks ++ es.drop ks.length).length = es.length := by rw [List.length_append, List.length_drop]; omega
      refine WC.skip ?_
      refine WX.next (?_)
      refine WC.cut (σ := List Ev) (fun ks1 => [(0, .slice (some ⟨g, 0, none⟩) es.length c), (1, fv), (5, .int .i64 (ks1.length : Int)), (6, .int .i64 (j : Int))]) (fun ks1 wr => ks1 = dl q (es.take (j + 1)) ∧ ks1.length < j + 1 ∧ (∀ t ∈ ks1, EvOk t) ∧ Mem w wr FF [blk g ((ks1 ++ es.drop ks1.length).flatMap evC ++ ys) 45]) ?_ ?_
      ·
        refine WC.block ?_
        refine WC.seq ?_
        refine WC.region ?_
        refine WL.ex rfl rfl rfl (Ex.mv rfl) ?_
        refine WL.ex rfl rfl rfl (Ex.mv rfl) ?_
        refine WL.ex rfl rfl rfl (Ex.ia Try.underlying22 sz45 rfl rfl ⟨by omega, by omega⟩) ?_
        refine WL.ex rfl rfl rfl (Ex.loadA ty45 rfl (l := evC p) (ev_len hpo) (M13.rdt (i := 0) rfl (flat_at2 (i := j) (fun a ha => ev_len (hDo a ha)) (keep_get (by omega) hpi) (by simp)))) ?_
        refine WL.ac rfl rfl rfl (Ac.alloc M13 (l := evC ev0) (by kernel_rfl)) ?_; rintro v22 w22 ⟨gx, rfl, hg22, K22, M22⟩
        refine WL.ac0 rfl rfl (Ac.stA M22 ty45 rfl rfl (vs := evC p) rfl (ev_len hpo) ev_one (i := 0) rfl (by rw [ev_len hpo, ev_len ev0_ok]; decide)) ?_; rintro v23 w23 ⟨K23, M23⟩
        try dsimp only [List.set] at M23
        rw [splice_all _ _ (by rw [ev_len hpo, ev_len ev0_ok])] at M23
        refine WL.nil ?_
        refine WX.next (?_)
        refine WC.seq ?_
        refine WC.region ?_
        refine WL.ex rfl rfl rfl (Ex.mv rfl) ?_
        refine WL.ex rfl rfl rfl (Ex.loadA ty45 rfl (l := evC p) (ev_len hpo) (M23.rdw (i := 0) rfl)) ?_
        refine WL.ac rfl rfl rfl (Ac.callv rfl rfl (hq w23 p M23.keep hpo)) ?_; rintro v26 w26 ⟨rfl, K26⟩
        have M26 := M23.step K26
        refine WL.ex rfl rfl rfl (Ex.not rfl) ?_
        refine WL.nil ?_
        refine WX.next (?_)
        refine WC.cond rfl (fun h29 => ?_) (fun h29 => ?_)
        · have hqp : q p = false := by simpa using h29
          refine WC.seq ?_
          refine WC.region ?_
          refine WL.ex rfl rfl rfl (Ex.mv rfl) ?_
          refine WL.ex rfl rfl rfl (Ex.mv rfl) ?_
          refine WL.ex rfl rfl rfl (Ex.loadA ty45 rfl (l := evC p) (ev_len hpo) (M26.rdw (i := 0) rfl)) ?_
          refine WL.ex rfl rfl rfl (Ex.ia Try.underlying22 sz45 rfl rfl ⟨by omega, by omega⟩) ?_
          refine WL.ac0 rfl rfl (Ac.stA M26 ty45 rfl rfl (vs := evC p) rfl (ev_len hpo) ev_one (i := 1) rfl (by rw [List.length_append, evs_len hDo, hDl, ev_len hpo]; simp; omega)) ?_; rintro v32 w32 ⟨K32, M32⟩
          try dsimp only [List.set] at M32
          rw [splice_app (by rw [evs_len hDo, hDl, ev_len hpo]; simp; omega), flat_set (fun a ha => ev_len (hDo a ha)) (ev_len hpo) (i := ks.length) (by omega) (by simp), keep_set (by omega)] at M32
          refine WL.nil ?_
          refine WX.next (?_)
          refine WC.region ?_
          refine WL.ex rfl rfl rfl (Ex.mv rfl) ?_
          refine WL.ex rfl rfl rfl (Ex.add rfl rfl (c := ((ks ++ [p]).length : Int)) (by rw [List.length_append, List.length_singleton, Int.natCast_add]; exact i64w _ (by omega) (by omega))) ?_
          refine WL.ex rfl rfl rfl (Ex.asg rfl) ?_
          refine WL.nil ?_
          refine WX.normal_block (?_)
          refine WX.join (ks ++ [p]) ?_ (.cons rfl (.cons rfl (.cons rfl (.cons rfl (.nil)))))
          refine ⟨?_, by simp; omega, ?_, (Mem.sub M32 (.cons _ (.refl _)))⟩
          · rw [dl_yes hpi hqp, ← hks]
          · intro t ht
            rcases List.mem_append.1 ht with h | h
            · exact hko t h
            · obtain rfl : t = p := by simpa using h
              exact hpo
        · have hqp : q p = true := by simpa using h29
          refine WC.skip ?_
          refine WX.normal_block (?_)
          refine WX.join (ks) ?_ (.cons rfl (.cons rfl (.cons rfl (.cons rfl (.nil)))))
          exact ⟨by rw [dl_no hpi hqp]; exact hks, by omega, hko, (Mem.sub M26 (.cons _ (.refl _)))⟩
      · rintro ks1 w36 ⟨hk1, hk2, hk3, M36⟩
        refine WC.region ?_
        refine WL.ex rfl rfl rfl (Ex.mv rfl) ?_
        refine WL.ex rfl rfl rfl (Ex.add rfl rfl (i64w _ (by omega) (by omega))) ?_
        refine WL.ex rfl rfl rfl (Ex.asg rfl) ?_
        refine WL.nil ?_
        refine WX.again (((j + 1, ks1) : Nat × List Ev)) ?_ ?_ (.cons rfl (.cons rfl (.cons rfl (.cons rfl (.nil)))))
        · dsimp only; omega
        · exact ⟨by dsimp only; omega, hk1, by dsimp only; omega, hk3, M36⟩
    · obtain rfl : j = es.length := by omega
      rw [List.take_length] at hks
      have hDo : ∀ t ∈ ks ++ es.drop ks.length, EvOk t := fun t ht => (List.mem_append.1 ht).elim (hko t) (fun h => hok t (List.mem_of_mem_drop h))
      have hDl : (ks ++ es.drop ks.length).length = es.length := by rw [List.length_append, List.length_drop]; omega
      have hfl := evs_len hDo
      have hfk := evs_len hko
      refine WC.exit ?_
      refine WX.exit_then (WX.exit_then (WX.exit_block (WX.next (?_))))
      refine WC.seq ?_
      refine WC.region ?_
      have hyl2 : ((ks ++ es.drop ks.length).flatMap evC ++ ys).length = c * 47 := by rw [List.length_append, hfl, hDl, ← hxl, ← List.length_append]; exact hyl
      refine WL.ex rfl rfl rfl (Ex.mv rfl) ?_
      refine WL.ex rfl rfl rfl (Ex.mv rfl) ?_
      refine WL.ex rfl rfl rfl (Ex.sllN Try.underlying22 sz45 rfl rfl (i := ks.length) (by omega) (by omega)) ?_
      refine WL.ac0 rfl rfl (acClr M13 Try.underlying22 (zs := evC ev0) (by kernel_rfl) rfl ev_one (i := 0) rfl (by rw [hyl2, ev_len ev0_ok, Nat.zero_add, ← Nat.add_mul]; exact Nat.mul_le_mul_right _ (by omega))) ?_; rintro v43 w43 ⟨l2, hl2, ht2, K43, M43⟩
      try dsimp only [List.set] at M43
      refine WL.nil ?_
      refine WX.next (?_)
      refine WC.seq ?_
      refine WC.region ?_
      refine WL.ex rfl rfl rfl (Ex.mv rfl) ?_
      refine WL.ex rfl rfl rfl (Ex.mv rfl) ?_
      refine WL.ex rfl rfl rfl (Ex.slh Try.underlying22 sz45 rfl rfl (Int.natCast_nonneg _) (by omega)) ?_
      rw [Int.toNat_natCast]
      refine WL.ex rfl rfl rfl (Ex.asg rfl) ?_
      refine WL.nil ?_
      refine WX.next (?_)
      refine WC.ret ?_
      refine WX.ret1 rfl rfl ?_
      have hend := mem_blkrow M43 (i := 0) rfl (c := c) (n := ks.length) (sz := 47) (by rw [hl2]; exact hyl2) (by omega) hcm
      try dsimp only [List.set] at hend
      rw [Nat.zero_add] at ht2
      rw [ht2, List.flatMap_append, List.append_assoc, List.take_append_of_le_length (by rw [hfk]; omega), List.take_of_length_le (by rw [hfk]; omega)] at hend
      rw [← hks]
      subst hFF
      exact hend.toTurn

end Go.Proofs.Ytjbgdkdoniacgaa
