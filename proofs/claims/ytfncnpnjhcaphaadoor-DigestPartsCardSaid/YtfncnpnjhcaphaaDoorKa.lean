/- Walks, written by gen.py off the translation's own print: each says what the Go function comes to. -/
import Derived.Test.YtfncnpnjhcaphaaDoorFa
set_option linter.unusedVariables false
set_option linter.unusedSimpArgs false
namespace Go.Proofs.YtfncnpnjhcaphaaDoor
open Go.Sx Go.RowKit
attribute [local irreducible] Ac Ex WL WC WX WP Gives sha

theorem flatP_append (ps qs : List SV) : flatP (ps ++ qs) = flatP ps ++ flatP qs := by simp [flatP]
def bump (l : List UInt8) (j : Nat) : Prop := True
theorem flatP_le {ps : List SV} {k : Nat} (h : ∀ p ∈ ps, p.l.length ≤ k) : (flatP ps).length ≤ k * ps.length := by
  induction ps with
  | nil => simp [flatP]
  | cons a r ih =>
    have h1 := ih fun p hp => h p (by simp [hp])
    have h2 := h a (by simp)
    have e : flatP (a :: r) = a.l ++ flatP r := by simp [flatP]
    rw [e, List.length_append, List.length_cons, Nat.mul_succ]
    omega

/- sponsion/sponsionlaw05.DigestParts -/
theorem digestParts_walk (w : World) (A : Option Addr) (c : Nat) (ps : List SV) (hr : RdP w A ps) (hT : Tabs w) :
    Gives Tryd.prog 4 #[.slice A ps.length c] w fun u w1 => u = .bool true ∧ Keep nof w w1 := by
  have M0 := Mem.start w nof
  refine Gives.enter (n := 75) Tryd.func4 rfl Tryd.ntmps4 rfl (env := [(0, .slice A ps.length c)]) rfl ?_
  refine WC.seq ?_
  refine WC.region ?_
  refine WL.ex rfl rfl rfl (Ex.asg rfl) ?_
  refine WL.nil ?_
  refine WX.next (?_)
  refine WC.seq ?_
  refine WC.seq ?_
  refine WC.region ?_
  refine WL.ac rfl rfl rfl (Ac.call rfl Tryd.func12 nm12 rfl (lives05_ok w (hT.keep M0.keep))) ?_; rintro v2 w2 ⟨rfl, K2⟩
  have M2 := M0.step K2
  refine WL.ex rfl rfl rfl (Ex.not rfl) ?_
  refine WL.ex rfl rfl rfl (Ex.mv rfl) ?_
  refine WL.yes rfl rfl rfl rfl ?_
  refine WL.ex rfl rfl rfl (Ex.mv rfl) ?_
  refine WL.yes rfl rfl rfl rfl ?_
  refine WL.ex rfl rfl rfl (Ex.len Tryd.underlying29 rfl) ?_
  refine WL.yes rfl rfl rfl rfl ?_
  refine WL.ex rfl rfl rfl (Ex.gtr rfl rfl) ?_
  refine WL.ex rfl rfl rfl (Ex.pickF rfl rfl) ?_
  refine WL.nil ?_
  refine WX.next (?_)
  refine WC.cond_dec rfl (fun hc15 => ?_) (fun hc15 => ?_)
  · skip
    refine WC.seq ?_
    refine WC.region ?_
    refine WL.ac rfl rfl rfl (Ac.call rfl Tryd.func12 nm12 rfl (lives05_ok w2 (hT.keep M2.keep))) ?_; rintro v9 w9 ⟨rfl, K9⟩
    have M9 := M2.step K9
    refine WL.ex rfl rfl rfl (Ex.asg rfl) ?_
    refine WL.nil ?_
    refine WX.next (?_)
    refine WC.ret ?_
    refine WX.ret_then (?_)
    refine WX.ret1 rfl rfl ?_
    exact ⟨rfl, M9.keep⟩
  · have hn : ps.length ≤ 12 := by omega
    refine WC.skip ?_
    refine WX.next (?_)
    refine WC.seq ?_
    refine WC.region ?_
    refine WL.ac rfl rfl rfl (Ac.call rfl Tryd.func15 nm15 rfl (dnew_ok w2 (hT.keep M2.keep))) ?_; rintro v11 w11 ⟨gs, v0, rfl, N11⟩
    have hgf := hT.fresh (Nat.le_trans M2.keep.size (N11.fresh gs (by simp [sep, blk])))
    replace M2 := (M2.new N11).free (r := row (.slice none 0 0) 5 1 ([] : List UInt8).length (bytesV [])) (row_nil _ _ _) rfl
    refine WL.ex rfl rfl rfl (Ex.asg rfl) ?_
    refine WL.nil ?_
    refine WX.next (?_)
    refine WC.seq ?_
    refine WC.region ?_
    refine WL.ex rfl rfl rfl (Ex.asg rfl) ?_
    refine WL.nil ?_
    refine WX.next (?_)
    refine WC.seq ?_
    refine WC.seq ?_
    refine WC.region ?_
    refine WL.ex rfl rfl rfl (Ex.mv rfl) ?_
    refine WL.ex rfl rfl rfl (Ex.len Tryd.underlying29 rfl) ?_
    refine WL.ex rfl rfl rfl (Ex.mv rfl) ?_
    refine WL.nil ?_
    refine WX.next (?_)
    refine WC.block ?_
    refine WC.loop (σ := Nat × Value × Value) (fun s => [(0, .slice A ps.length c), (3, .pointer (some ⟨gs, 0, none⟩)), (4, s.2.2), (18, .slice A ps.length c), (19, .int .i64 (ps.length : Int)), (20, .int .i64 (s.1 : Int))]) (fun s wr => s.1 ≤ ps.length ∧ (∀ p ∈ ps.take s.1, p.l.length ≤ 200) ∧ Mem w wr nof [row s.2.2 5 1 (flatP (ps.take s.1)).length (bytesV (flatP (ps.take s.1))), stR gs s.2.1 (flatP (ps.take s.1))]) (fun s => ps.length - s.1) (((0, v0, .slice none 0 0) : Nat × Value × Value)) ?_ (.cons rfl (.cons rfl (.cons rfl (.cons rfl (.cons rfl (.cons rfl (.nil))))))) ?_
    · exact ⟨by simp, by simp, M2⟩
    rintro ⟨i, v, va⟩ w17 ⟨hi, hall, M17⟩
    dsimp only at hi hall M17
    refine WC.sub (env' := [(0, .slice A ps.length c), (3, .pointer (some ⟨gs, 0, none⟩)), (4, va), (18, .slice A ps.length c), (19, .int .i64 (ps.length : Int)), (20, .int .i64 (i : Int))]) (.cons rfl (.cons rfl (.cons rfl (.cons rfl (.cons rfl (.cons rfl (.nil))))))) ?_
    refine WC.seq ?_
    refine WC.region ?_
    refine WL.ex rfl rfl rfl (Ex.lss rfl rfl) ?_
    refine WL.nil ?_
    refine WX.next (?_)
    refine WC.seq ?_
    refine WC.cond_dec rfl (fun hin => ?_) (fun hin => ?_)
    · obtain ⟨p, hpi⟩ : ∃ p, ps[i]? = some p := ⟨_, List.getElem?_eq_getElem (by omega)⟩
      have hpm : p ∈ ps := List.mem_of_getElem? hpi
      obtain ⟨b0, o0, hA, _⟩ := hr.1.plain (by simp; omega)
      subst hA
      have hsn := flatP_snoc hpi
      have hfl := flatP_le hall
      have htl : (ps.take i).length ≤ 12 := by simp; omega
      refine WC.skip ?_
      refine WX.next (?_)
      refine WC.seq ?_
      refine WC.block ?_
      refine WC.seq ?_
      refine WC.region ?_
      refine WL.ex rfl rfl rfl (Ex.ia Tryd.underlying29 sz22 rfl rfl ⟨by omega, by omega⟩) ?_
      refine WL.ex rfl rfl rfl (Ex.load ty22 rfl (Rd.at1 (u := svV p) (hr.1.keep0 M17.keep) (j := (i : Int).toNat * 1) (by simp [hpi]))) ?_
      refine WL.ex rfl rfl rfl (Ex.asg rfl) ?_
      refine WL.nil ?_
      refine WX.next (?_)
      refine WC.seq ?_
      refine WC.seq ?_
      refine WC.region ?_
      refine WL.ex rfl rfl rfl (Ex.mv rfl) ?_
      refine WL.ex rfl rfl rfl (Ex.len Tryd.underlying22 rfl) ?_
      refine WL.ex rfl rfl rfl (Ex.gtr rfl rfl) ?_
      refine WL.nil ?_
      refine WX.next (?_)
      refine WC.cond_dec rfl (fun h200 => ?_) (fun h200 => ?_)
      · skip
        refine WC.seq ?_
        refine WC.region ?_
        refine WL.ex rfl rfl rfl (Ex.asg rfl) ?_
        refine WL.nil ?_
        refine WX.next (?_)
        refine WC.ret ?_
        refine WX.ret_then (WX.ret_block (WX.ret_then (WX.ret_then (WX.ret_block (WX.ret_then (?_))))))
        refine WX.ret1 rfl rfl ?_
        exact ⟨rfl, M17.keep⟩
      · have hp2 : p.l.length ≤ 200 := by omega
        refine WC.skip ?_
        refine WX.next (?_)
        refine WC.seq ?_
        refine WC.region ?_
        refine WL.ac rfl rfl rfl (Ac.bs0 M17 Tryd.underlying22 sz5) ?_; rintro v26 w26 ⟨g26, rfl, hg26, K26, M26⟩
        refine WL.ex rfl rfl rfl (Ex.mv rfl) ?_
        refine WL.ac rfl rfl rfl (Ac.app M26 el22 rfl rfl (i := 0) rfl (by simp) (M26.rd (hr.2 p hpm)) (bytesV_one _) (by omega) (by simp [maxLen]; omega)) ?_; rintro v28 w28 ⟨K28, M28⟩
        try dsimp only [List.set] at M28
        simp only [Nat.zero_add, List.nil_append] at M28
        obtain ⟨Ao, co, rfl⟩ := own_slice (M28.get (i := 0) rfl)
        refine WL.ex rfl rfl rfl (Ex.asg rfl) ?_
        refine WL.nil ?_
        refine WX.next (?_)
        refine WC.seq ?_
        refine WC.seq ?_
        refine WC.region ?_
        refine WL.ex rfl rfl rfl (Ex.mv rfl) ?_
        refine WL.ex rfl rfl rfl (Ex.eqPn Tryd.underlying30 rfl) ?_
        refine WL.ex rfl rfl rfl (Ex.mv rfl) ?_
        refine WL.yes rfl rfl rfl rfl ?_
        refine WL.ex rfl rfl rfl (Ex.mv rfl) ?_
        refine WL.yes rfl rfl rfl rfl ?_
        refine WL.ex rfl rfl rfl (Ex.mv rfl) ?_
        refine WL.yes rfl rfl rfl rfl ?_
        refine WL.ac rfl rfl rfl (Ac.bs M28 (parts := [(0, .tmp 34)]) (l := [svV ⟨Ao, co, p.l⟩]) rfl rfl (LitS.one el29 rfl)) ?_; rintro v35 w35 ⟨gl, rfl, hg35, K35, M35⟩
        refine WL.yes rfl rfl rfl rfl ?_
        refine WL.ac rfl rfl rfl (Ac.call rfl Tryd.func16 nm16 rfl (sadd_ok w35 gs v (flatP (ps.take i)) (some ⟨gl, 0, none⟩) 1 [⟨Ao, co, p.l⟩] (M35.get (i := 3) rfl) (RdA.one (M35.get (i := 0) rfl) (M35.apart (i := 0) (j := 3) rfl rfl (by decide) gl (by simp [blk])) (M35.rdr (i := 1) rfl) (fun a ha _ => M35.apart (i := 1) (j := 3) rfl rfl (by decide) a.block (row_nblk ha))) (hT.keep M35.keep) hgf (by rw [flatP_one]; omega) (by simp) (fun b hb => ((M35.own _ (List.mem_of_getElem? (i := 3) rfl) b hb).elim (fun hle => hT.fresh hle) (fun f => f.elim))))) ?_; rintro v36 w36 ⟨rfl, v1, T36⟩
        rw [flatP_one, ← hsn] at T36
        have M36 := M35.turned (i := 3) rfl T36
        try dsimp only [List.set] at M36
        refine WL.yes rfl rfl rfl rfl ?_
        refine WL.ex rfl rfl rfl (Ex.mv rfl) ?_
        refine WL.yes rfl rfl rfl rfl ?_
        refine WL.ex rfl rfl rfl (Ex.neP Tryd.underlying30 (by kernel_rfl) rfl rfl rfl) ?_
        rw [beq_self_eq_true]
        refine WL.ex rfl rfl rfl (Ex.pickF rfl rfl) ?_
        refine WL.nil ?_
        refine WX.next (?_)
        refine WC.no rfl ?_
        refine WC.skip ?_
        refine WX.next (?_)
        refine WC.seq ?_
        refine WC.seq ?_
        refine WC.region ?_
        refine WL.ex rfl rfl rfl (Ex.mv rfl) ?_
        refine WL.ex rfl rfl rfl (Ex.len Tryd.underlying22 rfl) ?_
        refine WL.ex rfl rfl rfl (Ex.mv rfl) ?_
        refine WL.nil ?_
        refine WX.next (?_)
        refine WC.block ?_
        refine WC.loop (σ := Nat × List UInt8) (fun s => [(0, .slice (some ⟨b0, o0, none⟩) ps.length c), (3, .pointer (some ⟨gs, 0, none⟩)), (4, va), (6, .slice p.A p.l.length p.c), (7, .slice Ao p.l.length co), (18, .slice (some ⟨b0, o0, none⟩) ps.length c), (19, .int .i64 (ps.length : Int)), (20, .int .i64 (i : Int)), (41, .int .i64 (p.l.length : Int)), (42, .int .i64 (s.1 : Int))]) (fun s wr => s.1 ≤ p.l.length ∧ s.2.length = p.l.length ∧ Mem w wr nof [row (.slice Ao p.l.length co) 5 1 p.l.length (bytesV s.2), row va 5 1 (flatP (ps.take i)).length (bytesV (flatP (ps.take i))), stR gs v1 (flatP (ps.take (i + 1)))]) (fun s => p.l.length - s.1) (((0, p.l) : Nat × List UInt8)) ?_ (.cons rfl (.cons rfl (.cons rfl (.cons rfl (.cons rfl (.cons rfl (.cons rfl (.cons rfl (.cons rfl (.cons rfl (.nil))))))))))) ?_
        · exact ⟨by simp, rfl, (Mem.sub M36 (.cons _ (.refl _)))⟩
        rintro ⟨j, lo⟩ w43 ⟨hj, hlo, M43⟩
        dsimp only at hj hlo M43
        refine WC.sub (env' := [(0, .slice (some ⟨b0, o0, none⟩) ps.length c), (3, .pointer (some ⟨gs, 0, none⟩)), (4, va), (6, .slice p.A p.l.length p.c), (7, .slice Ao p.l.length co), (18, .slice (some ⟨b0, o0, none⟩) ps.length c), (19, .int .i64 (ps.length : Int)), (20, .int .i64 (i : Int)), (41, .int .i64 (p.l.length : Int)), (42, .int .i64 (j : Int))]) (.cons rfl (.cons rfl (.cons rfl (.cons rfl (.cons rfl (.cons rfl (.cons rfl (.cons rfl (.cons rfl (.cons rfl (.nil))))))))))) ?_
        refine WC.seq ?_
        refine WC.region ?_
        refine WL.ex rfl rfl rfl (Ex.lss rfl rfl) ?_
        refine WL.nil ?_
        refine WX.next (?_)
        refine WC.seq ?_
        refine WC.cond_dec rfl (fun hjn => ?_) (fun hjn => ?_)
        · obtain ⟨go, rfl⟩ := own_some (M43.get (i := 0) rfl) (by omega)
          obtain ⟨b, hbj⟩ : ∃ b, lo[j]? = some b := ⟨_, List.getElem?_eq_getElem (by omega)⟩
          refine WC.skip ?_
          refine WX.next (?_)
          refine WC.seq ?_
          refine WC.block ?_
          refine WC.seq ?_
          refine WC.region ?_
          refine WL.ex rfl rfl rfl (Ex.mv rfl) ?_
          refine WL.ex rfl rfl rfl (Ex.asg rfl) ?_
          refine WL.nil ?_
          refine WX.next (?_)
          refine WC.region ?_
          refine WL.ex rfl rfl rfl (Ex.mv rfl) ?_
          refine WL.ex rfl rfl rfl (Ex.mv rfl) ?_
          refine WL.ex rfl rfl rfl (Ex.ia Tryd.underlying22 sz5 rfl rfl ⟨by omega, by omega⟩) ?_
          refine WL.ex rfl rfl rfl (Ex.load ty5 rfl (Rd.at1 (u := byteV b) (M43.rdr (i := 0) rfl) (j := (j : Int).toNat * 1) (by simp [bytesV_get hbj]))) ?_
          refine WL.ex rfl rfl rfl (Ex.add rfl rfl (u8b (b.toNat + 1))) ?_
          refine WL.ex rfl rfl rfl (Ex.ia Tryd.underlying22 sz5 rfl rfl ⟨by omega, by omega⟩) ?_
          refine WL.ac0 rfl rfl (Ac.stR M43 ty5 rfl rfl rfl (i := 0) rfl (by simp; omega)) ?_; rintro v53 w53 ⟨K53, M53⟩
          try dsimp only [List.set] at M53
          simp only [Int.toNat_natCast, Nat.mul_one, Nat.zero_add] at M53
          rw [bytesV_set] at M53
          refine WL.nil ?_
          refine WX.normal_block (WX.next (?_))
          refine WC.region ?_
          refine WL.ex rfl rfl rfl (Ex.add rfl rfl (i64w _ (by omega) (by omega))) ?_
          refine WL.ex rfl rfl rfl (Ex.mv rfl) ?_
          refine WL.nil ?_
          refine WX.again (((j + 1, lo.set j (UInt8.ofNat (b.toNat + 1))) : Nat × List UInt8)) ?_ ?_ (.cons rfl (.cons rfl (.cons rfl (.cons rfl (.cons rfl (.cons rfl (.cons rfl (.cons rfl (.cons rfl (.cons rfl (.nil)))))))))))
          · (try dsimp only); omega
          · exact ⟨by dsimp only; omega, by dsimp only; simpa using hlo, M53⟩
        · skip
          refine WC.exit ?_
          refine WX.exit_then (WX.exit_then (WX.exit_block (WX.next (?_))))
          refine WC.seq ?_
          refine WC.region ?_
          refine WL.ex rfl rfl rfl (Ex.mv rfl) ?_
          refine WL.ex rfl rfl rfl (Ex.mv rfl) ?_
          refine WL.ac rfl rfl rfl (Ac.app M43 el22 rfl rfl (i := 1) rfl (by simp) (M43.rd (hr.2 p hpm)) (bytesV_one _) (by omega) (by simp [maxLen]; omega)) ?_; rintro v58 w58 ⟨K58, M58⟩
          try dsimp only [List.set] at M58
          rw [← bytesV_append, ← hsn, ← List.length_append, ← hsn] at M58
          obtain ⟨vb, rfl⟩ : ∃ vb, vb = v58 := ⟨_, rfl⟩
          refine WL.ex rfl rfl rfl (Ex.asg rfl) ?_
          refine WL.nil ?_
          refine WX.next (?_)
          refine WC.seq ?_
          refine WC.region ?_
          refine WL.ex rfl rfl rfl (Ex.mv rfl) ?_
          have hfl1 : (flatP (ps.take (i + 1))).length ≤ 2600 := by rw [hsn, List.length_append]; omega
          obtain ⟨Ab, cb, hvb⟩ := own_slice (M58.get (i := 1) rfl)
          obtain ⟨X, hX⟩ : ∃ X, X = flatP (ps.take (i + 1)) := ⟨_, rfl⟩
          rw [← hX] at M58 hfl1 hvb
          refine WL.ac rfl rfl rfl (Ac.call rfl Tryd.func17 nm17 rfl (ssum_ok w58 _ _ _ (M58.get (i := 2) rfl) (hT.keep M58.keep) (by omega))) ?_; rintro v61 w61 ⟨rfl, K61⟩
          have M61 := M58.step K61
          refine WL.ex rfl rfl rfl (Ex.mv rfl) ?_
          refine WL.ac rfl rfl rfl (Ac.bs M61 (parts := [(0, .tmp 57)]) (l := [svV ⟨Ab, cb, X⟩]) (by rw [hvb]; rfl) rfl (LitS.one el29 rfl)) ?_; rintro v63 w63 ⟨gk, rfl, hg63, K63, M63⟩
          refine WL.ac rfl rfl rfl (Ac.call rfl Tryd.func13 nm13 rfl (dsum_ok w63 _ 1 [⟨Ab, cb, X⟩] (RdP.one (M63.get (i := 0) rfl) (by have := M63.get (i := 2) rfl; rw [hvb] at this; exact rd_of_own this)) (hT.keep M63.keep) (by rw [flatP_one]; omega) (by simp))) ?_; rintro v64 w64 ⟨rfl, K64⟩
          rw [flatP_one]
          have M64 := M63.step K64
          refine WL.ex rfl rfl rfl (Ex.neA rfl rfl (eqHash w (shaH X) (shaH X))) ?_
          rw [decide_eq_true rfl]
          refine WL.ex rfl rfl rfl (Ex.mv rfl) ?_
          refine WL.yes rfl rfl rfl rfl ?_
          refine WL.ex rfl rfl rfl (Ex.mv rfl) ?_
          refine WL.yes rfl rfl rfl rfl ?_
          refine WL.ac rfl rfl rfl (Ac.call rfl Tryd.func17 nm17 rfl (ssum_ok w64 _ _ _ (M64.get (i := 3) rfl) (hT.keep M64.keep) (by omega))) ?_; rintro v68 w68 ⟨rfl, K68⟩
          have M68 := M64.step K68
          refine WL.yes rfl rfl rfl rfl ?_
          refine WL.ex rfl rfl rfl (Ex.mv rfl) ?_
          refine WL.yes rfl rfl rfl rfl ?_
          refine WL.ac rfl rfl rfl (Ac.call rfl Tryd.func17 nm17 rfl (ssum_ok w68 _ _ _ (M68.get (i := 3) rfl) (hT.keep M68.keep) (by omega))) ?_; rintro v70 w70 ⟨rfl, K70⟩
          have M70 := M68.step K70
          refine WL.yes rfl rfl rfl rfl ?_
          refine WL.ex rfl rfl rfl (Ex.neA rfl rfl (eqHash w (shaH X) (shaH X))) ?_
          rw [decide_eq_true rfl]
          refine WL.ex rfl rfl rfl (Ex.pickF rfl rfl) ?_
          refine WL.nil ?_
          refine WX.next (?_)
          refine WC.no rfl ?_
          refine WC.skip ?_
          refine WX.normal_block (WX.next (?_))
          refine WC.region ?_
          rw [hX] at M70
          refine WL.ex rfl rfl rfl (Ex.add rfl rfl (i64w _ (by omega) (by omega))) ?_
          refine WL.ex rfl rfl rfl (Ex.mv rfl) ?_
          refine WL.nil ?_
          refine WX.again (((i + 1, v1, vb) : Nat × Value × Value)) ?_ ?_ (.cons rfl (.cons rfl (.cons rfl (.cons rfl (.cons rfl (.cons rfl (.nil)))))))
          · (try dsimp only); omega
          · refine ⟨by dsimp only; omega, ?_, (Mem.sub M70 (.cons _ (.cons _ (.refl _))))⟩
            dsimp only
            rw [take_snoc hpi]
            intro q hq
            rcases List.mem_append.1 hq with h | h
            · exact hall q h
            · obtain rfl : q = p := by simpa using h
              exact hp2
    · obtain rfl : i = ps.length := by omega
      rw [List.take_length] at M17 hall
      have hfl := flatP_le hall
      obtain ⟨Aa, ca, rfl⟩ := own_slice (M17.get (i := 0) rfl)
      refine WC.exit ?_
      refine WX.exit_then (WX.exit_then (WX.exit_block (WX.next (?_))))
      refine WC.seq ?_
      refine WC.region ?_
      refine WL.ex rfl rfl rfl (Ex.mv rfl) ?_
      refine WL.ac rfl rfl rfl (Ac.call rfl Tryd.func13 nm13 rfl (dsum_ok w17 A c ps (hr.keep M17.keep) (hT.keep M17.keep) (by omega) (by omega))) ?_; rintro v76 w76 ⟨rfl, K76⟩
      have M76 := M17.step K76
      refine WL.ex rfl rfl rfl (Ex.mv rfl) ?_
      refine WL.ac rfl rfl rfl (Ac.bs M76 (parts := [(0, .tmp 71)]) (l := [svV ⟨Aa, ca, flatP ps⟩]) rfl rfl (LitS.one el29 rfl)) ?_; rintro v78 w78 ⟨gk, rfl, hg78, K78, M78⟩
      refine WL.ac rfl rfl rfl (Ac.call rfl Tryd.func13 nm13 rfl (dsum_ok w78 _ 1 [⟨Aa, ca, flatP ps⟩] (RdP.one (M78.get (i := 0) rfl) (M78.rdr (i := 1) rfl)) (hT.keep M78.keep) (by rw [flatP_one]; omega) (by simp))) ?_; rintro v79 w79 ⟨rfl, K79⟩
      rw [flatP_one]
      have M79 := M78.step K79
      refine WL.ex rfl rfl rfl (Ex.eqA rfl rfl (eqHash w (shaH _) (shaH _))) ?_
      rw [decide_eq_true rfl]
      refine WL.ex rfl rfl rfl (Ex.asg rfl) ?_
      refine WL.nil ?_
      refine WX.next (?_)
      refine WC.ret ?_
      refine WX.ret1 rfl rfl ?_
      exact ⟨rfl, M79.keep⟩

end Go.Proofs.YtfncnpnjhcaphaaDoor
