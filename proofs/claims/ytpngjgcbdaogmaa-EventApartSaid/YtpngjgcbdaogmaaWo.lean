/- Walks, written by gen.py off the translation's own print: each says what the Go function comes to. -/
import Derived.Test.YtpngjgcbdaogmaaWn
set_option linter.unusedVariables false
set_option linter.unusedSimpArgs false
namespace Go.Proofs.Ytpngjgcbdaogmaa
open Go.Sx Go.RowKit
attribute [local irreducible] Ac Ex WL WC WX WP Gives

/-- A slice of intents that can be read. -/
structure RdT (w : World) (A : Option Addr) (ts : List Itt) : Prop where
  row : Rd w A (ts.flatMap ittC)
  ok : ∀ t ∈ ts, IttOk t
theorem RdT.keep {w w' : World} {A : Option Addr} {ts : List Itt} (h : RdT w A ts) (k : Keep nof w w') : RdT w' A ts := ⟨h.row.keep0 k, h.ok⟩
theorem RdT.plain {w : World} {A : Option Addr} {ts : List Itt} (h : RdT w A ts) {i : Nat} {p : Itt} (hp : ts[i]? = some p) : ∃ b o, A = some ⟨b, o, none⟩ :=
  h.row.flat_plain (List.mem_of_getElem? hp) (by rw [itt_len (h.ok p (List.mem_of_getElem? hp))]; omega)
theorem itts_snoc {ts : List Itt} {i : Nat} {p : Itt} (h : ts[i]? = some p) : (ts.take (i + 1)).flatMap ittB = (ts.take i).flatMap ittB ++ ittB p := by rw [take_snoc h]; simp
theorem itts_cons {ts : List Itt} {i : Nat} {p : Itt} (h : ts[i]? = some p) : (ts.drop i).flatMap ittB = ittB p ++ (ts.drop (i + 1)).flatMap ittB := by
  obtain ⟨h1, h2⟩ := List.getElem?_eq_some_iff.1 h
  rw [List.drop_eq_getElem_cons h1, h2]; simp
theorem itts_len (ts : List Itt) : (ts.flatMap ittB).length = 38 * ts.length := by
  induction ts with
  | nil => rfl
  | cons a r ih => simp only [List.flatMap_cons, List.length_append, ittB_len, List.length_cons, ih]; omega
theorem iGet_B {t : Itt} {L : List UInt8} (h : IttOk t) : iGet (ittB t ++ L, 0) = if mayI t then (t, (L, 0)) else (itt0, ([], 6)) := by
  have := iGet_app (A := be 4 t.ix) (B := be 1 t.tk) (C := be 1 t.ow) (D := intB t.am) (L := L) (by simp) (by simp) (by simp) (by simp)
  rw [beVal_be' (by have := h.ix; omega), beVal_be' (by have := h.tk; omega), beVal_be' (by have := h.ow; omega), ofB_intB h.am] at this
  simpa only [ittB, List.append_assoc] using this
theorem iGet_6 : iGet ([], 6) = (itt0, ([], 6)) := by rw [iGet_short (by decide)]; rfl
theorem iGet_nil : iGet ([], 0) = (itt0, ([], 4)) := by rw [iGet_short (by decide)]; rfl
theorem iGet_err {s : RS} (h : (iGet s).2.2 ≠ 0) : (iGet s).1 = itt0 := by
  unfold iGet at h ⊢
  split at h
  · rename_i hc
    rw [if_pos hc]
    split at h
    · exact absurd rfl h
    · rename_i hm; rw [if_neg hm]
  · rename_i hc
    rw [if_neg hc]
abbrev ittKs : List CK := [.int .u32, .int .u8, .int .u8, .int .u64, .int .u64, .int .u64, .int .u64]
theorem itt_view {w : World} {vs : List Value} (h : CK.oks w ittK vs) : ∃ t, vs = ittC t ∧ IttOk t := by
  obtain ⟨v0, r0, rfl, h0, v1, r1, rfl, h1, v2, r2, rfl, h2, h3⟩ := h
  obtain ⟨ix, hix, rfl⟩ := ok_u32 h0
  obtain ⟨tk, htk, rfl⟩ := ok_u8n h1
  obtain ⟨ow, how, rfl⟩ := ok_u8n h2
  obtain ⟨a, ha, hab, rfl⟩ := oks_u64s 4 _ h3
  exact ⟨⟨ix, tk, ow, a⟩, rfl, hix, htk, how, int4_of ha hab⟩
theorem ok_itts {w : World} {v : Value} (h : CK.ok w (.sl ittK) v) : ∃ A c, ∃ ts : List Itt, v = .slice A ts.length c ∧ ts.length ≤ c ∧ c ≤ maxLen ∧ RdT w A ts := by
  obtain ⟨A, c, ts, h1, h2, h3, h4, h5⟩ := sl_view h ittC _ (fun vs hv => itt_view hv)
  exact ⟨A, c, ts, h1, h2, h3, h4, h5⟩

/- sponsion/sponsionlaw07.IntentReads -/
theorem intentReads_walk (w : World) (A : Option Addr) (c : Nat) (bl : List UInt8) (hr : Rd w A (bytesV bl)) :
    Gives Try.prog 8 #[.slice A bl.length c] w fun u w1 => u = .bool true ∧ Keep nof w w1 := by
  have M0 := Mem.start w nof
  obtain ⟨⟨x1, l1, e1⟩, hG⟩ : ∃ p, p = iGet (bl, 0) := ⟨_, rfl⟩
  obtain ⟨⟨X, E⟩, hXE⟩ : ∃ p, p = iRead bl := ⟨_, rfl⟩
  have hX : IttOk X := by have := iRead_ok bl; rw [← hXE] at this; exact this
  have hx1 : IttOk x1 := by have := iGet_ok (bl, 0); rw [← hG] at this; exact this
  have hR : (X, E) = if endE (l1, e1) ≠ 0 then (itt0, endE (l1, e1)) else (x1, 0) := by rw [hXE, iRead, ← hG]
  refine Gives.enter (n := 58) Try.func8 rfl Try.ntmps8 rfl (env := [(0, .slice A bl.length c)]) rfl ?_
  refine WC.seq ?_
  refine WC.region ?_
  refine WL.ex rfl rfl rfl (Ex.asg rfl) ?_
  refine WL.nil ?_
  refine WX.next (?_)
  refine WC.seq ?_
  refine WC.seq ?_
  refine WC.region ?_
  refine WL.ac rfl rfl rfl (Ac.call rfl Try.func41 nm41 rfl (lives07_ok w)) ?_; rintro v2 w2 ⟨rfl, K2⟩
  have M2 := M0.step K2
  refine WL.ex rfl rfl rfl (Ex.not rfl) ?_
  refine WL.ex rfl rfl rfl (Ex.mv rfl) ?_
  refine WL.yes rfl rfl rfl rfl ?_
  refine WL.ex rfl rfl rfl (Ex.mv rfl) ?_
  refine WL.yes rfl rfl rfl rfl ?_
  refine WL.ex rfl rfl rfl (Ex.len Try.underlying25 rfl) ?_
  refine WL.yes rfl rfl rfl rfl ?_
  refine WL.ex rfl rfl rfl (Ex.gtr rfl rfl) ?_
  refine WL.ex rfl rfl rfl (Ex.pickF rfl rfl) ?_
  refine WL.nil ?_
  refine WX.next (?_)
  refine WC.cond_dec rfl (fun hc13 => ?_) (fun hc13 => ?_)
  · skip
    refine WC.seq ?_
    refine WC.region ?_
    refine WL.ac rfl rfl rfl (Ac.call rfl Try.func41 nm41 rfl (lives07_ok w2)) ?_; rintro v9 w9 ⟨rfl, K9⟩
    have M9 := M2.step K9
    refine WL.ex rfl rfl rfl (Ex.asg rfl) ?_
    refine WL.nil ?_
    refine WX.next (?_)
    refine WC.ret ?_
    refine WX.ret_then (?_)
    refine WX.ret1 rfl rfl ?_
    exact ⟨rfl, M9.keep⟩
  · have hbl : bl.length ≤ 200 := by omega
    refine WC.skip ?_
    refine WX.next (?_)
    refine WC.seq ?_
    refine WC.region ?_
    refine WL.ex rfl rfl rfl (Ex.mv rfl) ?_
    refine WL.ac rfl rfl rfl (Ac.call rfl Try.func45 nm45 rfl (iRead_walk w2 _ _ _ (M2.rd hr) (by omega))) ?_; rintro v12 w12 ⟨rfl, K12⟩
    have M12 := M2.step K12
    rw [← hXE]
    refine WL.ex rfl rfl rfl (Ex.mv rfl) ?_
    refine WL.ex rfl rfl rfl (Ex.ext rfl rfl) ?_
    refine WL.ex rfl rfl rfl (Ex.ext rfl rfl) ?_
    refine WL.ac rfl rfl rfl (Ac.alloc M12 (l := ittC itt0) (by kernel_rfl)) ?_; rintro v16 w16 ⟨g3, rfl, hg16, K16, M16⟩
    refine WL.ac0 rfl rfl (Ac.stA M16 ty72 rfl rfl (vs := ittC X) rfl (itt_len hX) itt_one (i := 0) rfl (by rw [itt_len hX, itt_len itt0_ok]; decide)) ?_; rintro v17 w17 ⟨K17, M17⟩
    try dsimp only [List.set] at M17
    rw [splice_all _ _ (by rw [itt_len hX, itt_len itt0_ok])] at M17
    refine WL.ex rfl rfl rfl (Ex.asg rfl) ?_
    refine WL.nil ?_
    refine WX.next (?_)
    refine WC.seq ?_
    refine WC.region ?_
    refine WL.ex rfl rfl rfl (Ex.mv rfl) ?_
    refine WL.ex rfl rfl rfl (Ex.cvBS Try.underlying25 Try.underlying5 Try.underlying9 rfl (M17.rd hr)) ?_
    refine WL.ex rfl rfl rfl (Ex.bld bd53 (parts := [(0, .tmp 22)]) (l := [str bl, .int .i64 0]) rfl rfl rfl rfl) ?_
    refine WL.ac rfl rfl rfl (Ac.call rfl Try.func46 nm46 rfl (get7_ok w17 bl 0 (fun h => absurd rfl h))) ?_; rintro v22 w22 ⟨rfl, K22⟩
    have M22 := M17.step K22
    rw [← hG]
    refine WL.ex rfl rfl rfl (Ex.mv rfl) ?_
    refine WL.ex rfl rfl rfl (Ex.ext rfl rfl) ?_
    refine WL.ex rfl rfl rfl (Ex.ext rfl rfl) ?_
    refine WL.ac rfl rfl rfl (Ac.alloc M22 (l := [str [], .int .i64 0]) (by kernel_rfl)) ?_; rintro v26 w26 ⟨g5, rfl, hg26, K26, M26⟩
    refine WL.ac rfl rfl rfl (Ac.alloc M26 (l := ittC itt0) (by kernel_rfl)) ?_; rintro v27 w27 ⟨g6, rfl, hg27, K27, M27⟩
    refine WL.ac0 rfl rfl (Ac.stA M27 ty53 rfl rfl (vs := [str l1, .int .i64 e1]) rfl rfl (by simp [str, Value.oneCell']) (i := 1) rfl (by simp)) ?_; rintro v28 w28 ⟨K28, M28⟩
    try dsimp only [List.set] at M28
    rw [splice_all _ _ (by simp)] at M28
    refine WL.ac0 rfl rfl (Ac.stA M28 ty72 rfl rfl (vs := ittC x1) rfl (itt_len hx1) itt_one (i := 0) rfl (by rw [itt_len hx1, itt_len itt0_ok]; decide)) ?_; rintro v29 w29 ⟨K29, M29⟩
    try dsimp only [List.set] at M29
    rw [splice_all _ _ (by rw [itt_len hx1, itt_len itt0_ok])] at M29
    refine WL.nil ?_
    refine WX.next (?_)
    refine WC.cut (σ := List UInt8) (fun _ => [(0, .slice A bl.length c), (3, .pointer (some ⟨g3, 0, none⟩)), (4, .int .i64 E), (5, .pointer (some ⟨g5, 0, none⟩)), (6, .pointer (some ⟨g6, 0, none⟩))]) (fun l wr => Mem w wr nof [blk g6 (ittC X) 72, blk g5 [str l, .int .i64 E] 53, blk g3 (ittC X) 72]) ?_ ?_
    ·
      refine WC.seq ?_
      refine WC.region ?_
      refine WL.ex rfl rfl rfl (Ex.fa fl53_1 rfl) ?_
      refine WL.ex rfl rfl rfl (Ex.load ty3 rfl (M29.cell (i := 1) rfl rfl)) ?_
      refine WL.ex rfl rfl rfl (Ex.eqI rfl rfl) ?_
      by_cases he : e1 = 0
      · rw [decide_eq_true he]
        refine WL.ex rfl rfl rfl (Ex.mv rfl) ?_
        refine WL.yes rfl rfl rfl rfl ?_
        refine WL.ex rfl rfl rfl (Ex.fa fl53_0 rfl) ?_
        refine WL.yes rfl rfl rfl rfl ?_
        refine WL.ex rfl rfl rfl (Ex.load ty9 rfl (M29.cell (i := 1) rfl rfl)) ?_
        refine WL.yes rfl rfl rfl rfl ?_
        refine WL.ex rfl rfl rfl (Ex.neS rfl rfl) ?_
        refine WL.ex rfl rfl rfl (Ex.pickT rfl rfl) ?_
        refine WL.nil ?_
        refine WX.next (?_)
        refine WC.cond rfl (fun hq => ?_) (fun hq => ?_)
        · have hq2 : l1 ≠ [] := by simpa using hq
          obtain ⟨rfl, rfl⟩ : X = itt0 ∧ E = 5 := by
            have h5 : endE (l1, e1) = 5 := by rw [endE, if_pos ⟨he, hq2⟩]
            rw [h5, if_pos (by decide)] at hR
            exact Prod.mk.inj hR
          refine WC.seq ?_
          refine WC.region ?_
          refine WL.ex rfl rfl rfl (Ex.fa fl53_1 rfl) ?_
          refine WL.ac0 rfl rfl (Ac.st M29 ty3 rfl rfl rfl (i := 1) rfl (by simp)) ?_; rintro v39 w39 ⟨K39, M39⟩
          try dsimp only [List.set] at M39
          refine WL.nil ?_
          refine WX.next (?_)
          refine WC.region ?_
          refine WL.ex rfl rfl rfl (Ex.bld bd72 (parts := []) (l := ittC itt0) rfl rfl rfl rfl) ?_
          refine WL.ac0 rfl rfl (Ac.stA M39 ty72 rfl rfl (vs := ittC itt0) rfl rfl itt_one (i := 0) rfl (by rw [itt_len hx1, itt_len itt0_ok]; decide)) ?_; rintro v41 w41 ⟨K41, M41⟩
          try dsimp only [List.set] at M41
          rw [splice_all _ _ (by rw [itt_len hx1, itt_len itt0_ok])] at M41
          refine WL.nil ?_
          refine WX.join (l1) ?_ (.cons rfl (.cons rfl (.cons rfl (.cons rfl (.cons rfl (.nil))))))
          exact M41
        · have hq2 : l1 = [] := by simpa using hq
          obtain ⟨rfl, rfl⟩ : X = x1 ∧ E = e1 := by
            have h5 : endE (l1, e1) = e1 := by rw [endE, if_neg (fun h => h.2 hq2)]
            rw [h5, he, if_neg (fun h => h rfl)] at hR
            have := Prod.mk.inj hR
            exact ⟨this.1, by rw [this.2, he]⟩
          refine WC.skip ?_
          refine WX.join (l1) ?_ (.cons rfl (.cons rfl (.cons rfl (.cons rfl (.cons rfl (.nil))))))
          exact M29
      · rw [decide_eq_false he]
        obtain ⟨rfl, rfl⟩ : X = x1 ∧ E = e1 := by
          have h5 : endE (l1, e1) = e1 := by rw [endE, if_neg (fun h => he h.1)]
          have h6 : x1 = itt0 := by have := iGet_err (s := (bl, 0)) (by rw [← hG]; exact he); rw [← hG] at this; exact this
          rw [h5, if_pos he] at hR
          have := Prod.mk.inj hR
          exact ⟨by rw [this.1, h6], this.2⟩
        refine WL.ex rfl rfl rfl (Ex.mv rfl) ?_
        refine WL.no rfl rfl rfl rfl rfl rfl ?_
        refine WL.no rfl rfl rfl rfl rfl rfl ?_
        refine WL.no rfl rfl rfl rfl rfl rfl ?_
        refine WL.ex rfl rfl rfl (Ex.pickF rfl rfl) ?_
        refine WL.nil ?_
        refine WX.next (?_)
        refine WC.no rfl ?_
        refine WC.skip ?_
        refine WX.join (l1) ?_ (.cons rfl (.cons rfl (.cons rfl (.cons rfl (.cons rfl (.nil))))))
        exact M29
    · rintro l2 w44 M44
      refine WC.seq ?_
      refine WC.draw (Keep nof w44.drew) [] (.one 0 1 (.one 1 1 (.one 2 0 (.one 3 0 (.one 4 0 (.one 5 0 (.one 6 1 (.one 7 0 (.one 8 0 (.one 9 0 (.one 10 0 (.one 11 0 (.one 12 0 (.one 16 0 (.one 13 1 (.one 17 1 (.one 14 2 (.one 15 2 (.one 18 0 (.one 19 0 (.one 20 0 (.one 21 0 .nil)))))))))))))))))))))) mixed (by kernel_rfl) (by kernel_rfl) (by kernel_rfl) (HQ.then_ HQ.body) ?_
      obtain ⟨w45, hw45⟩ : ∃ v, v = w44.drew := ⟨_, rfl⟩
      have D45 : Keep nof w44 w45 := by rw [hw45]; exact Keep.drew _ _
      have M45 := M44.step D45
      rw [← hw45]; clear hw45
      refine WP.q (Keep.refl _ _) rfl rfl rfl rfl (fun w' hS => Ex.loadA ty72 rfl (l := ittC X) (itt_len hX) ((M45.rdw (i := 2) rfl).keep0 hS)) ?_
      refine WP.q (Keep.refl _ _) rfl rfl rfl rfl (fun w' hS => Ex.loadA ty72 rfl (l := ittC X) (itt_len hX) ((M45.rdw (i := 0) rfl).keep0 hS)) ?_
      refine WP.p rfl rfl rfl rfl (fun _ => Ex.eqA rfl rfl (eqItt w hX hX)) ?_
      rw [decide_eq_true rfl]
      refine WP.p rfl rfl rfl rfl (fun _ => Ex.mv rfl) ?_
      refine WP.py rfl rfl rfl rfl rfl rfl (fun _ => Ex.mv rfl) ?_
      refine WP.py rfl rfl rfl rfl rfl rfl (fun _ => Ex.fa fl53_1 rfl) ?_
      refine WP.qy (Keep.refl _ _) rfl rfl rfl rfl rfl rfl (fun w' hS => Ex.load ty3 rfl (hS.cell (M45.cell (i := 1) (v := .int .i64 E) rfl rfl) (fun f => f))) ?_
      refine WP.py rfl rfl rfl rfl rfl rfl (fun _ => Ex.eqI rfl rfl) ?_
      rw [decide_eq_true rfl]
      refine WP.p rfl rfl rfl rfl (fun _ => Ex.pickT rfl rfl) ?_
      refine WP.p rfl rfl rfl rfl (fun _ => Ex.mv rfl) ?_
      refine WP.py rfl rfl rfl rfl rfl rfl (fun _ => Ex.mv rfl) ?_
      refine WP.py rfl rfl rfl rfl rfl rfl (fun _ => Ex.neI rfl rfl) ?_
      rcases Decidable.em (E ≠ 0) with hE | hE
      · rw [decide_eq_false hE]
        refine WP.py rfl rfl rfl rfl rfl rfl (fun _ => Ex.mv rfl) ?_
        refine WP.no rfl rfl rfl rfl rfl rfl rfl ?_
        refine WP.no1 (Keep.refl _ _) rfl rfl rfl rfl rfl rfl rfl ?_
        refine WP.no1 (Keep.refl _ _) rfl rfl rfl rfl rfl rfl rfl ?_
        refine WP.no2 rfl rfl rfl rfl rfl rfl rfl ?_
        refine WP.no2 rfl rfl rfl rfl rfl rfl rfl ?_
        refine WP.no rfl rfl rfl rfl rfl rfl rfl ?_
        refine WP.py rfl rfl rfl rfl rfl rfl (fun _ => Ex.pickT rfl rfl) ?_
        refine WP.p rfl rfl rfl rfl (fun _ => Ex.pickT rfl rfl) ?_
        refine WP.p rfl rfl rfl rfl (fun _ => Ex.asg rfl) ?_
        refine WP.nil ?_
        refine WX.next (?_)
        refine WC.ret ?_
        refine WX.ret1 rfl rfl ?_
        exact ⟨rfl, M45.keep⟩
      · replace hE : E = 0 := by simpa using hE
        rw [decide_eq_true hE]
        refine WP.py rfl rfl rfl rfl rfl rfl (fun _ => Ex.mv rfl) ?_
        refine WP.py rfl rfl rfl rfl rfl rfl (fun _ => Ex.mv rfl) ?_
        refine WP.qy (Keep.refl _ _) rfl rfl rfl rfl rfl rfl (fun w' hS => Ex.loadA ty72 rfl (l := ittC X) (itt_len hX) ((M45.rdw (i := 2) rfl).keep0 hS)) ?_
        refine WP.qy (Keep.refl _ _) rfl rfl rfl rfl rfl rfl (fun w' hS => Ex.cvBS Try.underlying25 Try.underlying5 Try.underlying9 rfl ((M45.rd hr).keep0 hS)) ?_
        refine WP.ays rfl rfl rfl rfl rfl rfl (Ac.call rfl Try.func47 nm47 rfl (iBytes_ok w45 _ hX)) ?_; rintro v66 w66 N66
        refine ⟨Keep nof w66, fun u h => N66.keep.trans h, Keep.refl _ _, ?_⟩
        have M66 := M45.new N66
        obtain ⟨A66, c66, rfl⟩ := own_slice (M66.get (i := 0) rfl)
        refine WP.ay rfl rfl rfl rfl rfl rfl (Ex.ac (Ex.cvBS Try.underlying25 Try.underlying5 Try.underlying9 rfl (M66.rdr (i := 0) rfl))) ?_; rintro _ _ ⟨rfl, rfl⟩; refine .inr ⟨id, ?_⟩
        refine WP.py rfl rfl rfl rfl rfl rfl (fun _ => Ex.eqS rfl rfl) ?_
        rw [decide_eq_true (show ittB X = bl by have := iRead_bytes (b := bl) (by rw [← hXE]; exact hE); rw [← hXE] at this; exact this)]
        refine WP.py rfl rfl rfl rfl rfl rfl (fun _ => Ex.pickF rfl rfl) ?_
        refine WP.p rfl rfl rfl rfl (fun _ => Ex.pickT rfl rfl) ?_
        refine WP.p rfl rfl rfl rfl (fun _ => Ex.asg rfl) ?_
        refine WP.nil ?_
        refine WX.next (?_)
        refine WC.ret ?_
        refine WX.ret1 rfl rfl ?_
        exact ⟨rfl, M66.keep⟩

end Go.Proofs.Ytpngjgcbdaogmaa
