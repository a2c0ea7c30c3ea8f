/- Walks, written by gen.py off the translation's own print: each says what the Go function comes to. -/
import Derived.Test.YtpngjgcbdaogmaaWza
set_option linter.unusedVariables false
set_option linter.unusedSimpArgs false
namespace Go.Proofs.Ytpngjgcbdaogmaa
open Go.Sx Go.RowKit
attribute [local irreducible] Ac Ex WL WC WX WP Gives

/- sponsion/sponsionref09.Read -/
theorem ref9Read_walk (w : World) (l : List UInt8) (hb : l.length ≤ 1000000) :
    Gives Try.prog 56 #[str l] w fun u w1 => ∃ v, u = .tuple #[v, .int .i64 (eAll l).2] ∧ New w w1 (row v 89 47 (eAll l).1.length ((eAll l).1.flatMap evC)) := by
  have M0 := (Mem.start w nof).free (r := row (.slice none 0 0) 89 47 0 ([])) (row_nil _ _ _) rfl
  refine Gives.enter (n := 60) Try.func56 rfl Try.ntmps56 rfl (env := [(0, str l)]) rfl ?_
  refine WC.seq ?_
  refine WC.region ?_
  refine WL.ex rfl rfl rfl (Ex.asg rfl) ?_
  refine WL.ex rfl rfl rfl (Ex.asg rfl) ?_
  refine WL.nil ?_
  refine WX.next (?_)
  refine WC.seq ?_
  refine WC.region ?_
  refine WL.ex rfl rfl rfl (Ex.asg rfl) ?_
  refine WL.nil ?_
  refine WX.next (?_)
  refine WC.seq ?_
  refine WC.block ?_
  refine WC.loop (σ := List UInt8 × List Ev × Value) (fun s => [(0, str s.1), (4, s.2.2)]) (fun s wr => (∀ t ∈ s.2.1, EvOk t) ∧ s.1.length + s.2.1.length ≤ l.length ∧ (∃ f, s.1.length < f ∧ eAll l = eRead f s.1 s.2.1) ∧ Mem w wr nof [row s.2.2 89 47 s.2.1.length (s.2.1.flatMap evC)]) (fun s => s.1.length) (((l, [], .slice none 0 0) : List UInt8 × List Ev × Value)) ?_ (.cons rfl (.cons rfl (.nil))) ?_
  · exact ⟨by simp, by simp, ⟨_, Nat.lt_succ_self _, rfl⟩, M0⟩
  rintro ⟨L, acc, v⟩ w4 ⟨hacc, hlen, ⟨f, hf, hE⟩, M4⟩
  dsimp only at hacc hlen f hf hE M4
  refine WC.sub (env' := [(0, str L), (4, v)]) (.cons rfl (.cons rfl (.nil))) ?_
  refine WC.seq ?_
  refine WC.seq ?_
  refine WC.region ?_
  refine WL.ex rfl rfl rfl (Ex.mv rfl) ?_
  refine WL.ex rfl rfl rfl (Ex.neS (q := []) rfl rfl) ?_
  rw [show (!decide (L = [])) = decide (L ≠ []) by simp]
  refine WL.nil ?_
  refine WX.next (?_)
  refine WC.cond_dec rfl (fun hne => ?_) (fun hne => ?_)
  · obtain ⟨f, rfl⟩ : ∃ f1, f = f1 + 1 := ⟨f - 1, by omega⟩
    refine WC.skip ?_
    refine WX.next (?_)
    refine WC.block ?_
    refine WC.seq ?_
    refine WC.seq ?_
    refine WC.region ?_
    refine WL.ex rfl rfl rfl (Ex.mv rfl) ?_
    refine WL.ex rfl rfl rfl (Ex.lenS Try.underlying9 rfl) ?_
    refine WL.ex rfl rfl rfl (Ex.lss rfl rfl) ?_
    refine WL.nil ?_
    refine WX.next (?_)
    refine WC.cond_dec rfl (fun hc11 => ?_) (fun hc11 => ?_)
    · rw [eRead, if_neg hne, if_pos (by omega)] at hE
      refine WC.seq ?_
      refine WC.region ?_
      refine WL.ex rfl rfl rfl (Ex.asg rfl) ?_
      refine WL.ex rfl rfl rfl (Ex.asg rfl) ?_
      refine WL.nil ?_
      refine WX.next (?_)
      refine WC.ret ?_
      refine WX.ret_then (WX.ret_block (WX.ret_then (WX.ret_block (WX.ret_then (?_)))))
      refine WX.ret2 rfl rfl rfl ?_
      rw [hE]
      exact ⟨_, rfl, ((Mem.sub M4 (List.nil_sublist _)).free (r := row (.slice none 0 0) 89 47 0 ([])) (row_nil _ _ _) rfl).toNew⟩
    · have hl3 : 113 ≤ L.length := by omega
      obtain ⟨b0, h0⟩ : ∃ b, L[0]? = some b := ⟨_, List.getElem?_eq_getElem (by omega)⟩
      obtain ⟨b1, h1⟩ : ∃ b, L[41]? = some b := ⟨_, List.getElem?_eq_getElem (by omega)⟩
      obtain ⟨b2, h2⟩ : ∃ b, L[42]? = some b := ⟨_, List.getElem?_eq_getElem (by omega)⟩
      obtain ⟨b3, h3⟩ : ∃ b, L[43]? = some b := ⟨_, List.getElem?_eq_getElem (by omega)⟩
      obtain ⟨b4, h4⟩ : ∃ b, L[44]? = some b := ⟨_, List.getElem?_eq_getElem (by omega)⟩
      have hXe := evOf_eq hl3 h0 h1 h2 h3 h4
      have hXo : EvOk (evOf L) := evOf_ok (by omega)
      have hbv8 : beVal ((L.take 9).drop 1) < 18446744073709551616 := by have := beVal_lt_of (l := (L.take 9).drop 1) (n := 8) (by simp; omega); omega
      have hbv4 : beVal ((L.take 113).drop 109) < 4294967296 := by have := beVal_lt_of (l := (L.take 113).drop 109) (n := 4) (by simp; omega); omega
      refine WC.skip ?_
      refine WX.next (?_)
      refine WC.seq ?_
      refine WC.draw (Keep nof w4.drew) [4, 14, 15] (.one 0 0 (.one 1 0 (.one 2 0 (.one 3 0 (.one 5 0 (.one 6 0 (.one 7 0 (.one 8 0 (.one 9 0 (.one 10 0 (.one 11 0 (.one 12 0 (.two 4 (.one 13 0 (.one 14 2 (.one 15 2 .nil))) 14 (.one 4 2 (.one 13 0 (.one 15 2 .nil)))))))))))))))) mixed (by kernel_rfl) (by kernel_rfl) (by kernel_rfl) (HQ.then_ (HQ.block (HQ.then_ (HQ.block (HQ.then_ HQ.body))))) ?_
      obtain ⟨w12, hw12⟩ : ∃ v, v = w4.drew := ⟨_, rfl⟩
      have D12 : Keep nof w4 w12 := by rw [hw12]; exact Keep.drew _ _
      have M12 := M4.step D12
      rw [← hw12]; clear hw12
      refine WP.p rfl rfl rfl rfl (fun _ => Ex.mv rfl) ?_
      refine WP.p rfl rfl rfl rfl (fun _ => Ex.ixS Try.underlying9 rfl rfl (by decide) (b := b0) h0) ?_
      refine WP.p rfl rfl rfl rfl (fun _ => Ex.mv rfl) ?_
      refine WP.p rfl rfl rfl rfl (fun _ => Ex.slS Try.underlying9 rfl rfl rfl (by omega) (by omega) (by omega)) ?_
      try rw [show ((9 : Int).toNat) = 9 from rfl, show ((1 : Int).toNat) = 1 from rfl]
      refine WP.p rfl rfl rfl rfl (fun _ => Ex.mv rfl) ?_
      refine WP.p rfl rfl rfl rfl (fun _ => Ex.ixS Try.underlying9 rfl rfl (by decide) (b := b1) h1) ?_
      refine WP.p rfl rfl rfl rfl (fun _ => Ex.mv rfl) ?_
      refine WP.p rfl rfl rfl rfl (fun _ => Ex.ixS Try.underlying9 rfl rfl (by decide) (b := b2) h2) ?_
      refine WP.p rfl rfl rfl rfl (fun _ => Ex.mv rfl) ?_
      refine WP.p rfl rfl rfl rfl (fun _ => Ex.ixS Try.underlying9 rfl rfl (by decide) (b := b3) h3) ?_
      refine WP.p rfl rfl rfl rfl (fun _ => Ex.mv rfl) ?_
      refine WP.p rfl rfl rfl rfl (fun _ => Ex.ixS Try.underlying9 rfl rfl (by decide) (b := b4) h4) ?_
      refine WP.two ?_ ?_
      · skip
        refine WP.a rfl rfl rfl rfl (Ac.call rfl Try.func30 nm30 rfl (value4_ok w12 _ (by simp; omega))) ?_; rintro v25 w25 ⟨rfl, K25⟩; refine .inl ⟨rfl, Keep nof w25, ?_⟩
        have M25 := M12.step K25
        refine WP.p rfl rfl rfl rfl (fun _ => Ex.bldS bd89 (parts := [(0, .tmp 13), (1, .tmp 16), (3, .tmp 18), (4, .tmp 20), (5, .tmp 22), (6, .tmp 24)]) _ rfl rfl rfl bldEv6) ?_
        refine WP.a rfl rfl rfl rfl (Ac.alloc M25 (l := evC ev0) (by kernel_rfl)) ?_; rintro v27 w27 ⟨gx, rfl, hg27, K27, M27⟩; refine .inl ⟨rfl, Keep nof w27, ?_⟩
        refine WP.a0 rfl rfl rfl (Ac.stA M27 ty89 rfl rfl (vs := evC ⟨b0.toNat, beVal ((L.take 9).drop 1), List.replicate 32 0, b1.toNat, b2.toNat, b3.toNat, b4.toNat, [0, 0, 0, 0], [0, 0, 0, 0], 0⟩) rfl (by simp [evC]) ev_one (i := 0) rfl (by rw [ev_len ev0_ok]; simp [evC])) ?_; rintro v28 w28 ⟨K28, M28⟩; refine .inl ⟨rfl, Keep nof w28, ?_⟩
        try dsimp only [List.set] at M28
        rw [splice_all _ _ (by rw [ev_len ev0_ok]; simp [evC])] at M28
        refine WP.nil ?_
        refine WX.next (?_)
        refine WC.seq ?_
        refine WC.seq ?_
        refine WC.region ?_
        refine WL.ex rfl rfl rfl (Ex.mv rfl) ?_
        refine WL.nil ?_
        refine WX.next (?_)
        refine WC.block ?_
        refine WC.loop (σ := Nat) (fun i => [(0, str L), (4, v), (5, .pointer (some ⟨gx, 0, none⟩)), (26, .int .i64 (i : Int))]) (fun i wr => i ≤ 32 ∧ Mem w wr nof [blk gx (evC ⟨b0.toNat, beVal ((L.take 9).drop 1), fillTo 32 i (fun j => L.getD (9 + j) 0) 0, b1.toNat, b2.toNat, b3.toNat, b4.toNat, [0, 0, 0, 0], [0, 0, 0, 0], 0⟩) 89, row v 89 47 acc.length (acc.flatMap evC)]) (fun i => 32 - i) (0) ?_ (.cons rfl (.cons rfl (.cons rfl (.cons rfl (.nil))))) ?_
        · refine ⟨by omega, ?_⟩
          rw [fillTo_zero]
          exact M28
        rintro i w30 ⟨hi, M30⟩
        refine WC.seq ?_
        refine WC.region ?_
        refine WL.ex rfl rfl rfl (Ex.lss rfl rfl) ?_
        refine WL.nil ?_
        refine WX.next (?_)
        refine WC.seq ?_
        refine WC.cond_dec rfl (fun hc27 => ?_) (fun hc27 => ?_)
        · have hi32 : i < 32 := by omega
          obtain ⟨bi, hbi⟩ : ∃ b, L[9 + i]? = some b := ⟨_, List.getElem?_eq_getElem (by omega)⟩
          have hbd : bi = L.getD (9 + i) 0 := by rw [List.getD, hbi]; rfl
          have hx6 : EvOk ⟨b0.toNat, beVal ((L.take 9).drop 1), fillTo 32 i (fun j => L.getD (9 + j) 0) 0, b1.toNat, b2.toNat, b3.toNat, b4.toNat, [0, 0, 0, 0], [0, 0, 0, 0], 0⟩ := ⟨b0.toNat_lt, hbv8, by simp, b1.toNat_lt, b2.toNat_lt, b3.toNat_lt, b4.toNat_lt, int4_0, int4_0, Nat.zero_lt_succ _⟩
          refine WC.skip ?_
          refine WX.next (?_)
          refine WC.seq ?_
          refine WC.block ?_
          refine WC.seq ?_
          refine WC.region ?_
          refine WL.ex rfl rfl rfl (Ex.mv rfl) ?_
          refine WL.ex rfl rfl rfl (Ex.asg rfl) ?_
          refine WL.nil ?_
          refine WX.next (?_)
          refine WC.region ?_
          refine WL.ex rfl rfl rfl (Ex.mv rfl) ?_
          refine WL.ex rfl rfl rfl (Ex.mv rfl) ?_
          refine WL.ex rfl rfl rfl (Ex.mv rfl) ?_
          refine WL.ex rfl rfl rfl (Ex.add rfl rfl (i64w _ (by omega) (by omega))) ?_
          refine WL.ex rfl rfl rfl (Ex.ixS Try.underlying9 rfl rfl (by omega) (b := bi) (by rw [show (9 + (i : Int)).toNat = 9 + i by omega]; exact hbi)) ?_
          refine WL.ex rfl rfl rfl (Ex.fa fl89_2 rfl) ?_
          refine WL.ex rfl rfl rfl (Ex.iaA Try.underlying37 sz5 rfl rfl ⟨by omega, by omega⟩) ?_
          refine WL.ac0 rfl rfl (Ac.st M30 ty5 rfl rfl rfl (i := 0) rfl (by simp [evC]; omega)) ?_; rintro v41 w41 ⟨K41, M41⟩
          try dsimp only [List.set] at M41
          simp only [Int.toNat_natCast, Nat.mul_one, Nat.zero_add] at M41
          rw [ev_set_id hx6 hi32, show (fillTo 32 i (fun j => L.getD (9 + j) 0) 0).set i bi = fillTo 32 (i + 1) (fun j => L.getD (9 + j) 0) 0 by rw [hbd, fillTo_set 32 i (fun j => L.getD (9 + j) 0)]] at M41
          refine WL.nil ?_
          refine WX.normal_block (WX.next (?_))
          refine WC.region ?_
          refine WL.ex rfl rfl rfl (Ex.add rfl rfl (i64w _ (by omega) (by omega))) ?_
          refine WL.ex rfl rfl rfl (Ex.mv rfl) ?_
          refine WL.nil ?_
          refine WX.again (i + 1) ?_ ?_ (.cons rfl (.cons rfl (.cons rfl (.cons rfl (.nil)))))
          · (try dsimp only); omega
          · exact ⟨by omega, M41⟩
        · obtain rfl : i = 32 := by omega
          rw [fillTo_full 32 32 (Nat.le_refl _)] at M30
          have hx7 : EvOk ⟨b0.toNat, beVal ((L.take 9).drop 1), (List.range 32).map (fun j => L.getD (9 + j) 0), b1.toNat, b2.toNat, b3.toNat, b4.toNat, [0, 0, 0, 0], [0, 0, 0, 0], 0⟩ := ⟨b0.toNat_lt, hbv8, by simp, b1.toNat_lt, b2.toNat_lt, b3.toNat_lt, b4.toNat_lt, int4_0, int4_0, Nat.zero_lt_succ _⟩
          have hi1 : Int4 (ofB ((L.take 77).drop 45)) := ofB_ok (by simp; omega)
          have hi2 : Int4 (ofB ((L.take 109).drop 77)) := ofB_ok (by simp; omega)
          have hx8 : EvOk ⟨b0.toNat, beVal ((L.take 9).drop 1), (List.range 32).map (fun j => L.getD (9 + j) 0), b1.toNat, b2.toNat, b3.toNat, b4.toNat, ofB ((L.take 77).drop 45), [0, 0, 0, 0], 0⟩ := ⟨b0.toNat_lt, hbv8, by simp, b1.toNat_lt, b2.toNat_lt, b3.toNat_lt, b4.toNat_lt, hi1, int4_0, Nat.zero_lt_succ _⟩
          have hx9 : EvOk ⟨b0.toNat, beVal ((L.take 9).drop 1), (List.range 32).map (fun j => L.getD (9 + j) 0), b1.toNat, b2.toNat, b3.toNat, b4.toNat, ofB ((L.take 77).drop 45), ofB ((L.take 109).drop 77), 0⟩ := ⟨b0.toNat_lt, hbv8, by simp, b1.toNat_lt, b2.toNat_lt, b3.toNat_lt, b4.toNat_lt, hi1, hi2, Nat.zero_lt_succ _⟩
          refine WC.exit ?_
          refine WX.exit_then (WX.exit_then (WX.exit_block (WX.next (?_))))
          refine WC.seq ?_
          refine WC.region ?_
          refine WL.ex rfl rfl rfl (Ex.mv rfl) ?_
          refine WL.ex rfl rfl rfl (Ex.slS Try.underlying9 rfl rfl rfl (by omega) (by omega) (by omega)) ?_
          try rw [show ((77 : Int).toNat) = 77 from rfl, show ((45 : Int).toNat) = 45 from rfl]
          refine WL.ac rfl rfl rfl (Ac.call rfl Try.func34 nm34 rfl (intOf4_ok w30 _ (by simp; omega))) ?_; rintro v46 w46 ⟨rfl, K46⟩
          have M46 := M30.step K46
          refine WL.ex rfl rfl rfl (Ex.fa fl89_7 rfl) ?_
          refine WL.ac0 rfl rfl (Ac.stA M46 ty35 rfl rfl (vs := intV (ofB ((L.take 77).drop 45))) rfl (by simp [ofB]) (intV_one _) (i := 0) rfl (by rw [ev_len hx7]; simp [ofB])) ?_; rintro v48 w48 ⟨K48, M48⟩
          try dsimp only [List.set] at M48
          rw [ev_set_am hx7 (ofB_len _)] at M48
          refine WL.nil ?_
          refine WX.next (?_)
          refine WC.seq ?_
          refine WC.region ?_
          refine WL.ex rfl rfl rfl (Ex.mv rfl) ?_
          refine WL.ex rfl rfl rfl (Ex.slS Try.underlying9 rfl rfl rfl (by omega) (by omega) (by omega)) ?_
          try rw [show ((109 : Int).toNat) = 109 from rfl, show ((77 : Int).toNat) = 77 from rfl]
          refine WL.ac rfl rfl rfl (Ac.call rfl Try.func34 nm34 rfl (intOf4_ok w48 _ (by simp; omega))) ?_; rintro v51 w51 ⟨rfl, K51⟩
          have M51 := M48.step K51
          refine WL.ex rfl rfl rfl (Ex.fa fl89_8 rfl) ?_
          refine WL.ac0 rfl rfl (Ac.stA M51 ty35 rfl rfl (vs := intV (ofB ((L.take 109).drop 77))) rfl (by simp [ofB]) (intV_one _) (i := 0) rfl (by rw [ev_len hx8]; simp [ofB])) ?_; rintro v53 w53 ⟨K53, M53⟩
          try dsimp only [List.set] at M53
          rw [ev_set_fe hx8 (ofB_len _)] at M53
          refine WL.nil ?_
          refine WX.next (?_)
          refine WC.seq ?_
          refine WC.region ?_
          refine WL.ex rfl rfl rfl (Ex.mv rfl) ?_
          refine WL.ex rfl rfl rfl (Ex.slS Try.underlying9 rfl rfl rfl (by omega) (by omega) (by omega)) ?_
          try rw [show ((113 : Int).toNat) = 113 from rfl, show ((109 : Int).toNat) = 109 from rfl]
          refine WL.ac rfl rfl rfl (Ac.call rfl Try.func30 nm30 rfl (value4_ok w53 _ (by simp; omega))) ?_; rintro v56 w56 ⟨rfl, K56⟩
          have M56 := M53.step K56
          refine WL.ex rfl rfl rfl (Ex.cvI Try.underlying33 Try.underlying43 rfl (u32w_lt _ hbv4)) ?_
          refine WL.ex rfl rfl rfl (Ex.fa fl89_9 rfl) ?_
          refine WL.ac0 rfl rfl (Ac.st M56 ty43 rfl rfl rfl (i := 0) rfl (by rw [ev_len hx9]; decide)) ?_; rintro v59 w59 ⟨K59, M59⟩
          try dsimp only [List.set] at M59
          rw [ev_set_bt hx9] at M59
          rw [← hXe] at M59
          refine WL.nil ?_
          refine WX.next (?_)
          refine WC.seq ?_
          refine WC.seq ?_
          refine WC.region ?_
          refine WL.ex rfl rfl rfl (Ex.loadA ty89 rfl (l := evC (evOf L)) (ev_len hXo) (M59.rdw (i := 0) rfl)) ?_
          refine WL.ac rfl rfl rfl (Ac.call rfl Try.func51 nm51 rfl (may9_ok w59 _ hXo)) ?_; rintro v61 w61 ⟨rfl, K61⟩
          have M61 := M59.step K61
          by_cases hm : mayE (evOf L)
          · rw [decide_eq_true hm]
            refine WL.ex rfl rfl rfl (Ex.not rfl) ?_
            refine WL.nil ?_
            refine WX.next (?_)
            refine WC.no rfl ?_
            refine WC.skip ?_
            refine WX.next (?_)
            refine WC.seq ?_
            refine WC.region ?_
            refine WL.ex rfl rfl rfl (Ex.mv rfl) ?_
            refine WL.ex rfl rfl rfl (Ex.loadA ty89 rfl (l := evC (evOf L)) (ev_len hXo) (M61.rdw (i := 0) rfl)) ?_
            refine WL.ac rfl rfl rfl (Ac.bs M61 (parts := [(0, .tmp 54)]) rfl rfl (LitS.agg1 el86 rfl (ev_len hXo) (by decide))) ?_; rintro v65 w65 ⟨gb, rfl, hg65, K65, M65⟩
            refine WL.ac rfl rfl rfl (Ac.app M65 el86 rfl rfl (i := 2) rfl (by rw [ev_len hXo]) (M65.rdw (i := 0) rfl) ev_one (by omega) (by simp [maxLen]; omega)) ?_; rintro v66 w66 ⟨K66, M66⟩
            try dsimp only [List.set] at M66
            obtain ⟨vb, rfl⟩ : ∃ vb, vb = v66 := ⟨_, rfl⟩
            refine WL.ex rfl rfl rfl (Ex.asg rfl) ?_
            refine WL.nil ?_
            refine WX.next (?_)
            refine WC.region ?_
            refine WL.ex rfl rfl rfl (Ex.mv rfl) ?_
            refine WL.ex rfl rfl rfl (Ex.slSl Try.underlying9 rfl rfl (by decide) (by omega)) ?_
            rw [show ((113 : Int).toNat) = 113 from rfl]
            refine WL.ex rfl rfl rfl (Ex.asg rfl) ?_
            refine WL.nil ?_
            refine WX.normal_block (?_)
            refine WX.again (((L.drop 113, acc ++ [evOf L], vb) : List UInt8 × List Ev × Value)) ?_ ?_ (.cons rfl (.cons rfl (.nil)))
            · simp; omega
            · refine ⟨?_, ?_, ⟨f, ?_, ?_⟩, ?_⟩
              · dsimp only
                intro t ht
                rcases List.mem_append.1 ht with h3 | h3
                · exact hacc t h3
                · obtain rfl : t = evOf L := by simpa using h3
                  exact hXo
              · simp; omega
              · simp; omega
              · dsimp only
                rw [hE, eRead, if_neg hne, if_neg (by omega), if_pos hm]
              · dsimp only
                have Me := (Mem.sub M66 (.cons _ (.cons _ (.refl _))))
                have e1 : (acc ++ [evOf L]).length = acc.length + 1 := by simp
                have e2 : (acc ++ [evOf L]).flatMap evC = acc.flatMap evC ++ evC (evOf L) := by simp
                rw [e1, e2]
                exact Me
          · rw [decide_eq_false hm]
            rw [eRead, if_neg hne, if_neg (by omega), if_neg hm] at hE
            refine WL.ex rfl rfl rfl (Ex.not rfl) ?_
            refine WL.nil ?_
            refine WX.next (?_)
            refine WC.yes rfl ?_
            refine WC.seq ?_
            refine WC.region ?_
            refine WL.ex rfl rfl rfl (Ex.asg rfl) ?_
            refine WL.ex rfl rfl rfl (Ex.asg rfl) ?_
            refine WL.nil ?_
            refine WX.next (?_)
            refine WC.ret ?_
            refine WX.ret_then (WX.ret_block (WX.ret_then (WX.ret_block (WX.ret_then (?_)))))
            refine WX.ret2 rfl rfl rfl ?_
            rw [hE]
            exact ⟨_, rfl, ((Mem.sub M61 (List.nil_sublist _)).free (r := row (.slice none 0 0) 89 47 0 ([])) (row_nil _ _ _) rfl).toNew⟩
      · skip
        refine WP.a rfl rfl rfl rfl (Ac.alloc M12 (l := evC ev0) (by kernel_rfl)) ?_; rintro v74 w74 ⟨gx, rfl, hg74, K74, M74⟩; refine .inl ⟨rfl, Keep nof w74, ?_⟩
        refine WP.a rfl rfl rfl rfl (Ac.call rfl Try.func30 nm30 rfl (value4_ok w74 _ (by simp; omega))) ?_; rintro v75 w75 ⟨rfl, K75⟩; refine .inl ⟨rfl, Keep nof w75, ?_⟩
        have M75 := M74.step K75
        refine WP.p rfl rfl rfl rfl (fun _ => Ex.bldS bd89 (parts := [(0, .tmp 13), (1, .tmp 16), (3, .tmp 18), (4, .tmp 20), (5, .tmp 22), (6, .tmp 24)]) _ rfl rfl rfl bldEv6) ?_
        refine WP.a0 rfl rfl rfl (Ac.stA M75 ty89 rfl rfl (vs := evC ⟨b0.toNat, beVal ((L.take 9).drop 1), List.replicate 32 0, b1.toNat, b2.toNat, b3.toNat, b4.toNat, [0, 0, 0, 0], [0, 0, 0, 0], 0⟩) rfl (by simp [evC]) ev_one (i := 0) rfl (by rw [ev_len ev0_ok]; simp [evC])) ?_; rintro v77 w77 ⟨K77, M77⟩; refine .inl ⟨rfl, Keep nof w77, ?_⟩
        try dsimp only [List.set] at M77
        rw [splice_all _ _ (by rw [ev_len ev0_ok]; simp [evC])] at M77
        refine WP.nil ?_
        refine WX.next (?_)
        refine WC.seq ?_
        refine WC.seq ?_
        refine WC.region ?_
        refine WL.ex rfl rfl rfl (Ex.mv rfl) ?_
        refine WL.nil ?_
        refine WX.next (?_)
        refine WC.block ?_
        refine WC.loop (σ := Nat) (fun i => [(0, str L), (4, v), (5, .pointer (some ⟨gx, 0, none⟩)), (26, .int .i64 (i : Int))]) (fun i wr => i ≤ 32 ∧ Mem w wr nof [blk gx (evC ⟨b0.toNat, beVal ((L.take 9).drop 1), fillTo 32 i (fun j => L.getD (9 + j) 0) 0, b1.toNat, b2.toNat, b3.toNat, b4.toNat, [0, 0, 0, 0], [0, 0, 0, 0], 0⟩) 89, row v 89 47 acc.length (acc.flatMap evC)]) (fun i => 32 - i) (0) ?_ (.cons rfl (.cons rfl (.cons rfl (.cons rfl (.nil))))) ?_
        · refine ⟨by omega, ?_⟩
          rw [fillTo_zero]
          exact M77
        rintro i w79 ⟨hi, M79⟩
        refine WC.seq ?_
        refine WC.region ?_
        refine WL.ex rfl rfl rfl (Ex.lss rfl rfl) ?_
        refine WL.nil ?_
        refine WX.next (?_)
        refine WC.seq ?_
        refine WC.cond_dec rfl (fun hc27 => ?_) (fun hc27 => ?_)
        · have hi32 : i < 32 := by omega
          obtain ⟨bi, hbi⟩ : ∃ b, L[9 + i]? = some b := ⟨_, List.getElem?_eq_getElem (by omega)⟩
          have hbd : bi = L.getD (9 + i) 0 := by rw [List.getD, hbi]; rfl
          have hx6 : EvOk ⟨b0.toNat, beVal ((L.take 9).drop 1), fillTo 32 i (fun j => L.getD (9 + j) 0) 0, b1.toNat, b2.toNat, b3.toNat, b4.toNat, [0, 0, 0, 0], [0, 0, 0, 0], 0⟩ := ⟨b0.toNat_lt, hbv8, by simp, b1.toNat_lt, b2.toNat_lt, b3.toNat_lt, b4.toNat_lt, int4_0, int4_0, Nat.zero_lt_succ _⟩
          refine WC.skip ?_
          refine WX.next (?_)
          refine WC.seq ?_
          refine WC.block ?_
          refine WC.seq ?_
          refine WC.region ?_
          refine WL.ex rfl rfl rfl (Ex.mv rfl) ?_
          refine WL.ex rfl rfl rfl (Ex.asg rfl) ?_
          refine WL.nil ?_
          refine WX.next (?_)
          refine WC.region ?_
          refine WL.ex rfl rfl rfl (Ex.mv rfl) ?_
          refine WL.ex rfl rfl rfl (Ex.mv rfl) ?_
          refine WL.ex rfl rfl rfl (Ex.mv rfl) ?_
          refine WL.ex rfl rfl rfl (Ex.add rfl rfl (i64w _ (by omega) (by omega))) ?_
          refine WL.ex rfl rfl rfl (Ex.ixS Try.underlying9 rfl rfl (by omega) (b := bi) (by rw [show (9 + (i : Int)).toNat = 9 + i by omega]; exact hbi)) ?_
          refine WL.ex rfl rfl rfl (Ex.fa fl89_2 rfl) ?_
          refine WL.ex rfl rfl rfl (Ex.iaA Try.underlying37 sz5 rfl rfl ⟨by omega, by omega⟩) ?_
          refine WL.ac0 rfl rfl (Ac.st M79 ty5 rfl rfl rfl (i := 0) rfl (by simp [evC]; omega)) ?_; rintro v90 w90 ⟨K90, M90⟩
          try dsimp only [List.set] at M90
          simp only [Int.toNat_natCast, Nat.mul_one, Nat.zero_add] at M90
          rw [ev_set_id hx6 hi32, show (fillTo 32 i (fun j => L.getD (9 + j) 0) 0).set i bi = fillTo 32 (i + 1) (fun j => L.getD (9 + j) 0) 0 by rw [hbd, fillTo_set 32 i (fun j => L.getD (9 + j) 0)]] at M90
          refine WL.nil ?_
          refine WX.normal_block (WX.next (?_))
          refine WC.region ?_
          refine WL.ex rfl rfl rfl (Ex.add rfl rfl (i64w _ (by omega) (by omega))) ?_
          refine WL.ex rfl rfl rfl (Ex.mv rfl) ?_
          refine WL.nil ?_
          refine WX.again (i + 1) ?_ ?_ (.cons rfl (.cons rfl (.cons rfl (.cons rfl (.nil)))))
          · (try dsimp only); omega
          · exact ⟨by omega, M90⟩
        · obtain rfl : i = 32 := by omega
          rw [fillTo_full 32 32 (Nat.le_refl _)] at M79
          have hx7 : EvOk ⟨b0.toNat, beVal ((L.take 9).drop 1), (List.range 32).map (fun j => L.getD (9 + j) 0), b1.toNat, b2.toNat, b3.toNat, b4.toNat, [0, 0, 0, 0], [0, 0, 0, 0], 0⟩ := ⟨b0.toNat_lt, hbv8, by simp, b1.toNat_lt, b2.toNat_lt, b3.toNat_lt, b4.toNat_lt, int4_0, int4_0, Nat.zero_lt_succ _⟩
          have hi1 : Int4 (ofB ((L.take 77).drop 45)) := ofB_ok (by simp; omega)
          have hi2 : Int4 (ofB ((L.take 109).drop 77)) := ofB_ok (by simp; omega)
          have hx8 : EvOk ⟨b0.toNat, beVal ((L.take 9).drop 1), (List.range 32).map (fun j => L.getD (9 + j) 0), b1.toNat, b2.toNat, b3.toNat, b4.toNat, ofB ((L.take 77).drop 45), [0, 0, 0, 0], 0⟩ := ⟨b0.toNat_lt, hbv8, by simp, b1.toNat_lt, b2.toNat_lt, b3.toNat_lt, b4.toNat_lt, hi1, int4_0, Nat.zero_lt_succ _⟩
          have hx9 : EvOk ⟨b0.toNat, beVal ((L.take 9).drop 1), (List.range 32).map (fun j => L.getD (9 + j) 0), b1.toNat, b2.toNat, b3.toNat, b4.toNat, ofB ((L.take 77).drop 45), ofB ((L.take 109).drop 77), 0⟩ := ⟨b0.toNat_lt, hbv8, by simp, b1.toNat_lt, b2.toNat_lt, b3.toNat_lt, b4.toNat_lt, hi1, hi2, Nat.zero_lt_succ _⟩
          refine WC.exit ?_
          refine WX.exit_then (WX.exit_then (WX.exit_block (WX.next (?_))))
          refine WC.seq ?_
          refine WC.region ?_
          refine WL.ex rfl rfl rfl (Ex.mv rfl) ?_
          refine WL.ex rfl rfl rfl (Ex.slS Try.underlying9 rfl rfl rfl (by omega) (by omega) (by omega)) ?_
          try rw [show ((77 : Int).toNat) = 77 from rfl, show ((45 : Int).toNat) = 45 from rfl]
          refine WL.ac rfl rfl rfl (Ac.call rfl Try.func34 nm34 rfl (intOf4_ok w79 _ (by simp; omega))) ?_; rintro v95 w95 ⟨rfl, K95⟩
          have M95 := M79.step K95
          refine WL.ex rfl rfl rfl (Ex.fa fl89_7 rfl) ?_
          refine WL.ac0 rfl rfl (Ac.stA M95 ty35 rfl rfl (vs := intV (ofB ((L.take 77).drop 45))) rfl (by simp [ofB]) (intV_one _) (i := 0) rfl (by rw [ev_len hx7]; simp [ofB])) ?_; rintro v97 w97 ⟨K97, M97⟩
          try dsimp only [List.set] at M97
          rw [ev_set_am hx7 (ofB_len _)] at M97
          refine WL.nil ?_
          refine WX.next (?_)
          refine WC.seq ?_
          refine WC.region ?_
          refine WL.ex rfl rfl rfl (Ex.mv rfl) ?_
          refine WL.ex rfl rfl rfl (Ex.slS Try.underlying9 rfl rfl rfl (by omega) (by omega) (by omega)) ?_
          try rw [show ((109 : Int).toNat) = 109 from rfl, show ((77 : Int).toNat) = 77 from rfl]
          refine WL.ac rfl rfl rfl (Ac.call rfl Try.func34 nm34 rfl (intOf4_ok w97 _ (by simp; omega))) ?_; rintro v100 w100 ⟨rfl, K100⟩
          have M100 := M97.step K100
          refine WL.ex rfl rfl rfl (Ex.fa fl89_8 rfl) ?_
          refine WL.ac0 rfl rfl (Ac.stA M100 ty35 rfl rfl (vs := intV (ofB ((L.take 109).drop 77))) rfl (by simp [ofB]) (intV_one _) (i := 0) rfl (by rw [ev_len hx8]; simp [ofB])) ?_; rintro v102 w102 ⟨K102, M102⟩
          try dsimp only [List.set] at M102
          rw [ev_set_fe hx8 (ofB_len _)] at M102
          refine WL.nil ?_
          refine WX.next (?_)
          refine WC.seq ?_
          refine WC.region ?_
          refine WL.ex rfl rfl rfl (Ex.mv rfl) ?_
          refine WL.ex rfl rfl rfl (Ex.slS Try.underlying9 rfl rfl rfl (by omega) (by omega) (by omega)) ?_
          try rw [show ((113 : Int).toNat) = 113 from rfl, show ((109 : Int).toNat) = 109 from rfl]
          refine WL.ac rfl rfl rfl (Ac.call rfl Try.func30 nm30 rfl (value4_ok w102 _ (by simp; omega))) ?_; rintro v105 w105 ⟨rfl, K105⟩
          have M105 := M102.step K105
          refine WL.ex rfl rfl rfl (Ex.cvI Try.underlying33 Try.underlying43 rfl (u32w_lt _ hbv4)) ?_
          refine WL.ex rfl rfl rfl (Ex.fa fl89_9 rfl) ?_
          refine WL.ac0 rfl rfl (Ac.st M105 ty43 rfl rfl rfl (i := 0) rfl (by rw [ev_len hx9]; decide)) ?_; rintro v108 w108 ⟨K108, M108⟩
          try dsimp only [List.set] at M108
          rw [ev_set_bt hx9] at M108
          rw [← hXe] at M108
          refine WL.nil ?_
          refine WX.next (?_)
          refine WC.seq ?_
          refine WC.seq ?_
          refine WC.region ?_
          refine WL.ex rfl rfl rfl (Ex.loadA ty89 rfl (l := evC (evOf L)) (ev_len hXo) (M108.rdw (i := 0) rfl)) ?_
          refine WL.ac rfl rfl rfl (Ac.call rfl Try.func51 nm51 rfl (may9_ok w108 _ hXo)) ?_; rintro v110 w110 ⟨rfl, K110⟩
          have M110 := M108.step K110
          by_cases hm : mayE (evOf L)
          · rw [decide_eq_true hm]
            refine WL.ex rfl rfl rfl (Ex.not rfl) ?_
            refine WL.nil ?_
            refine WX.next (?_)
            refine WC.no rfl ?_
            refine WC.skip ?_
            refine WX.next (?_)
            refine WC.seq ?_
            refine WC.region ?_
            refine WL.ex rfl rfl rfl (Ex.mv rfl) ?_
            refine WL.ex rfl rfl rfl (Ex.loadA ty89 rfl (l := evC (evOf L)) (ev_len hXo) (M110.rdw (i := 0) rfl)) ?_
            refine WL.ac rfl rfl rfl (Ac.bs M110 (parts := [(0, .tmp 54)]) rfl rfl (LitS.agg1 el86 rfl (ev_len hXo) (by decide))) ?_; rintro v114 w114 ⟨gb, rfl, hg114, K114, M114⟩
            refine WL.ac rfl rfl rfl (Ac.app M114 el86 rfl rfl (i := 2) rfl (by rw [ev_len hXo]) (M114.rdw (i := 0) rfl) ev_one (by omega) (by simp [maxLen]; omega)) ?_; rintro v115 w115 ⟨K115, M115⟩
            try dsimp only [List.set] at M115
            obtain ⟨vb, rfl⟩ : ∃ vb, vb = v115 := ⟨_, rfl⟩
            refine WL.ex rfl rfl rfl (Ex.asg rfl) ?_
            refine WL.nil ?_
            refine WX.next (?_)
            refine WC.region ?_
            refine WL.ex rfl rfl rfl (Ex.mv rfl) ?_
            refine WL.ex rfl rfl rfl (Ex.slSl Try.underlying9 rfl rfl (by decide) (by omega)) ?_
            rw [show ((113 : Int).toNat) = 113 from rfl]
            refine WL.ex rfl rfl rfl (Ex.asg rfl) ?_
            refine WL.nil ?_
            refine WX.normal_block (?_)
            refine WX.again (((L.drop 113, acc ++ [evOf L], vb) : List UInt8 × List Ev × Value)) ?_ ?_ (.cons rfl (.cons rfl (.nil)))
            · simp; omega
            · refine ⟨?_, ?_, ⟨f, ?_, ?_⟩, ?_⟩
              · dsimp only
                intro t ht
                rcases List.mem_append.1 ht with h3 | h3
                · exact hacc t h3
                · obtain rfl : t = evOf L := by simpa using h3
                  exact hXo
              · simp; omega
              · simp; omega
              · dsimp only
                rw [hE, eRead, if_neg hne, if_neg (by omega), if_pos hm]
              · dsimp only
                have Me := (Mem.sub M115 (.cons _ (.cons _ (.refl _))))
                have e1 : (acc ++ [evOf L]).length = acc.length + 1 := by simp
                have e2 : (acc ++ [evOf L]).flatMap evC = acc.flatMap evC ++ evC (evOf L) := by simp
                rw [e1, e2]
                exact Me
          · rw [decide_eq_false hm]
            rw [eRead, if_neg hne, if_neg (by omega), if_neg hm] at hE
            refine WL.ex rfl rfl rfl (Ex.not rfl) ?_
            refine WL.nil ?_
            refine WX.next (?_)
            refine WC.yes rfl ?_
            refine WC.seq ?_
            refine WC.region ?_
            refine WL.ex rfl rfl rfl (Ex.asg rfl) ?_
            refine WL.ex rfl rfl rfl (Ex.asg rfl) ?_
            refine WL.nil ?_
            refine WX.next (?_)
            refine WC.ret ?_
            refine WX.ret_then (WX.ret_block (WX.ret_then (WX.ret_block (WX.ret_then (?_)))))
            refine WX.ret2 rfl rfl rfl ?_
            rw [hE]
            exact ⟨_, rfl, ((Mem.sub M110 (List.nil_sublist _)).free (r := row (.slice none 0 0) 89 47 0 ([])) (row_nil _ _ _) rfl).toNew⟩
  · obtain rfl : L = [] := Decidable.not_not.1 hne
    obtain ⟨f, rfl⟩ : ∃ f1, f = f1 + 1 := ⟨f - 1, by simp at hf; omega⟩
    rw [eRead, if_pos rfl] at hE
    refine WC.exit ?_
    refine WX.exit_then (WX.exit_then (WX.exit_block (WX.next (?_))))
    refine WC.seq ?_
    refine WC.region ?_
    refine WL.ex rfl rfl rfl (Ex.mv rfl) ?_
    refine WL.ex rfl rfl rfl (Ex.asg rfl) ?_
    refine WL.ex rfl rfl rfl (Ex.asg rfl) ?_
    refine WL.nil ?_
    refine WX.next (?_)
    refine WC.ret ?_
    refine WX.ret2 rfl rfl rfl ?_
    rw [hE]
    exact ⟨_, rfl, (Mem.sub M4 (.refl _)).toNew⟩

end Go.Proofs.Ytpngjgcbdaogmaa
