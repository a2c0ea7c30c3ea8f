/- Walks, written by gen.py off the translation's own print: each says what the Go function comes to. -/
import Derived.Test.YtpngjgcbdaogmaaWm
set_option linter.unusedVariables false
set_option linter.unusedSimpArgs false
namespace Go.Proofs.Ytpngjgcbdaogmaa
open Go.Sx Go.RowKit
attribute [local irreducible] Ac Ex WL WC WX WP Gives

/- sponsion/sponsionlaw07.lives -/
theorem lives07_ok (w : World) :
    Gives Try.prog 41 #[] w fun u w1 => u = .bool true ∧ Keep nof w w1 := by
  have M0 := Mem.start w nof
  have hx : IttOk ⟨1, 2, 3, [4, 0, 0, 0]⟩ := ⟨by decide, by decide, by decide, ⟨rfl, fun i => by match i with | 0 => decide | 1 => decide | 2 => decide | 3 => decide | _ + 4 => simp⟩⟩
  refine Gives.enter (n := 32) Try.func41 rfl Try.ntmps41 rfl (env := []) rfl ?_
  refine WC.seq ?_
  refine WC.region ?_
  refine WL.ex rfl rfl rfl (Ex.asg rfl) ?_
  refine WL.nil ?_
  refine WX.next (?_)
  refine WC.seq ?_
  refine WC.region ?_
  refine WL.ex rfl rfl rfl (Ex.bld bd35 (parts := [(0, .const (.int .u64 4))]) (l := intV [4, 0, 0, 0]) rfl rfl rfl rfl) ?_
  refine WL.ex rfl rfl rfl (Ex.bldS bd72 (parts := [(0, .const (.int .u32 1)), (1, .const (.int .u8 2)), (2, .const (.int .u8 3)), (3, .tmp 2)]) _ rfl rfl rfl (bldItt (ix := 1) (tk := 2) (ow := 3) (am := [4, 0, 0, 0]) rfl)) ?_
  refine WL.ac rfl rfl rfl (Ac.call rfl Try.func47 nm47 rfl (iBytes_ok w _ hx)) ?_; rintro v4 w4 N4
  have M4 := M0.new N4
  rw [show (ittB ⟨1, 2, 3, [4, 0, 0, 0]⟩).length = 38 from rfl] at M4
  obtain ⟨A4, c4, rfl⟩ := own_slice (M4.get (i := 0) rfl)
  obtain ⟨ga, rfl⟩ := own_some (M4.get (i := 0) rfl) (by decide)
  refine WL.ex rfl rfl rfl (Ex.asg rfl) ?_
  refine WL.nil ?_
  refine WX.next (?_)
  refine WC.seq ?_
  refine WC.region ?_
  refine WL.ex rfl rfl rfl (Ex.mv rfl) ?_
  refine WL.ex rfl rfl rfl (Ex.len Try.underlying25 rfl) ?_
  refine WL.ex rfl rfl rfl (Ex.eqI rfl rfl) ?_
  
  refine WL.ex rfl rfl rfl (Ex.mv rfl) ?_
  refine WL.yes rfl rfl rfl rfl ?_
  refine WL.ex rfl rfl rfl (Ex.mv rfl) ?_
  refine WL.yes rfl rfl rfl rfl ?_
  refine WL.ex rfl rfl rfl (Ex.ia Try.underlying25 sz5 rfl rfl ⟨by decide, by decide⟩) ?_
  refine WL.yes rfl rfl rfl rfl ?_
  refine WL.ex rfl rfl rfl (Ex.load ty5 rfl (Rd.at1 (u := .int .u8 1) (M4.rdr (i := 0) rfl) (j := (3 : Int).toNat * 1) rfl)) ?_
  refine WL.yes rfl rfl rfl rfl ?_
  refine WL.ex rfl rfl rfl (Ex.eqI rfl rfl) ?_
  
  refine WL.ex rfl rfl rfl (Ex.pickT rfl rfl) ?_
  refine WL.ex rfl rfl rfl (Ex.mv rfl) ?_
  refine WL.yes rfl rfl rfl rfl ?_
  refine WL.ex rfl rfl rfl (Ex.mv rfl) ?_
  refine WL.yes rfl rfl rfl rfl ?_
  refine WL.ex rfl rfl rfl (Ex.ia Try.underlying25 sz5 rfl rfl ⟨by decide, by decide⟩) ?_
  refine WL.yes rfl rfl rfl rfl ?_
  refine WL.ex rfl rfl rfl (Ex.load ty5 rfl (Rd.at1 (u := .int .u8 2) (M4.rdr (i := 0) rfl) (j := (4 : Int).toNat * 1) rfl)) ?_
  refine WL.yes rfl rfl rfl rfl ?_
  refine WL.ex rfl rfl rfl (Ex.eqI rfl rfl) ?_
  
  refine WL.ex rfl rfl rfl (Ex.pickT rfl rfl) ?_
  refine WL.ex rfl rfl rfl (Ex.mv rfl) ?_
  refine WL.yes rfl rfl rfl rfl ?_
  refine WL.ex rfl rfl rfl (Ex.mv rfl) ?_
  refine WL.yes rfl rfl rfl rfl ?_
  refine WL.ex rfl rfl rfl (Ex.ia Try.underlying25 sz5 rfl rfl ⟨by decide, by decide⟩) ?_
  refine WL.yes rfl rfl rfl rfl ?_
  refine WL.ex rfl rfl rfl (Ex.load ty5 rfl (Rd.at1 (u := .int .u8 3) (M4.rdr (i := 0) rfl) (j := (5 : Int).toNat * 1) rfl)) ?_
  refine WL.yes rfl rfl rfl rfl ?_
  refine WL.ex rfl rfl rfl (Ex.eqI rfl rfl) ?_
  
  refine WL.ex rfl rfl rfl (Ex.pickT rfl rfl) ?_
  refine WL.ex rfl rfl rfl (Ex.mv rfl) ?_
  refine WL.yes rfl rfl rfl rfl ?_
  refine WL.ex rfl rfl rfl (Ex.mv rfl) ?_
  refine WL.yes rfl rfl rfl rfl ?_
  refine WL.ex rfl rfl rfl (Ex.ia Try.underlying25 sz5 rfl rfl ⟨by decide, by decide⟩) ?_
  refine WL.yes rfl rfl rfl rfl ?_
  refine WL.ex rfl rfl rfl (Ex.load ty5 rfl (Rd.at1 (u := .int .u8 4) (M4.rdr (i := 0) rfl) (j := (37 : Int).toNat * 1) rfl)) ?_
  refine WL.yes rfl rfl rfl rfl ?_
  refine WL.ex rfl rfl rfl (Ex.eqI rfl rfl) ?_
  
  refine WL.ex rfl rfl rfl (Ex.pickT rfl rfl) ?_
  refine WL.ex rfl rfl rfl (Ex.asg rfl) ?_
  refine WL.nil ?_
  refine WX.next (?_)
  refine WC.ret ?_
  refine WX.ret1 rfl rfl ?_
  exact ⟨rfl, M4.keep⟩

/-- The end's error: the first one, or that bytes are left. -/
def endE (s : RS) : Int := if s.2 = 0 ∧ s.1 ≠ [] then 5 else s.2
theorem endE_0 {s : RS} (h : endE s = 0) : s.2 = 0 ∧ s.1 = [] := by
  unfold endE at h
  split at h
  · cases h
  · rename_i h2
    refine ⟨h, ?_⟩
    by_cases h3 : s.1 = []
    · exact h3
    · exact absurd ⟨h, h3⟩ h2
/-- What an intent is read as, off bytes. -/
def iRead (b : List UInt8) : Itt × Int := if endE (iGet (b, 0)).2 ≠ 0 then (itt0, endE (iGet (b, 0)).2) else ((iGet (b, 0)).1, 0)
theorem iRead_ok (b : List UInt8) : IttOk (iRead b).1 := by
  by_cases h : endE (iGet (b, 0)).2 ≠ 0
  · rw [iRead, if_pos h]; exact itt0_ok
  · rw [iRead, if_neg h]; exact iGet_ok _
theorem rTake_short {l : List UInt8} {e : Int} {n : Nat} (h0 : e ≠ 0 → l = []) (hn : 0 < n) (h : ¬ (e = 0 ∧ n ≤ l.length)) : rTake (l, e) n = ([], rFail (l, e) 4) := by
  rw [rTake, if_pos]
  by_cases he : e = 0
  · simp only [he, true_and] at h; simp only; omega
  · rw [h0 he]; simpa using hn
theorem ittB_of {b : List UInt8} (h : b.length = 38) : ittB (ittOf b) = b := by
  obtain ⟨A, B, C, D, L, hA, hB, hC, hD, rfl⟩ := split38 (l := b) (by omega)
  have hL : L = [] := by
    apply List.eq_nil_of_length_eq_zero
    simp [hA, hB, hC, hD] at h
    omega
  subst hL
  rw [List.append_nil, ittOf_app hA hB hC, ittB]
  have e1 := be_beVal A
  have e2 := be_beVal B
  have e3 := be_beVal C
  rw [hA] at e1
  rw [hB] at e2
  rw [hC] at e3
  simp only [e1, e2, e3, intB_ofB hD]
theorem iRead_bytes {b : List UInt8} (h : (iRead b).2 = 0) : ittB (iRead b).1 = b := by
  by_cases hne : endE (iGet (b, 0)).2 ≠ 0
  · rw [iRead, if_pos hne] at h; exact absurd h hne
  · rw [iRead, if_neg hne]
    have h1 := endE_0 (Decidable.not_not.1 hne)
    clear h hne
    obtain ⟨h2, h3⟩ := h1
    unfold iGet at h2 h3 ⊢
    split at h2
    · rename_i hc
      rw [if_pos hc] at h3 ⊢
      split at h2
      · rename_i hm
        rw [if_pos hm] at h3 ⊢
        have hl : b.length = 38 := by
          have := congrArg List.length h3
          have := hc.2
          simp at *
          omega
        simp only
        rw [List.take_of_length_le (by omega)]
        exact ittB_of hl
      · cases h2
    · rename_i hc
      simp [rFail] at h2

/- sponsion/intent.Read -/
theorem iRead_walk (w : World) (A : Option Addr) (c : Nat) (l : List UInt8) (hr : Rd w A (bytesV l)) (hb : l.length ≤ 70368744177664) :
    Gives Try.prog 45 #[.slice A l.length c] w fun u w1 => u = .tuple #[.agg (ittC (iRead l).1).toArray, .int .i64 (iRead l).2] ∧ Keep nof w w1 := by
  have M0 := Mem.start w nof
  have hx := iGet_ok (l, 0)
  refine Gives.enter (n := 18) Try.func45 rfl Try.ntmps45 rfl (env := [(0, .slice A l.length c)]) rfl ?_
  refine WC.seq ?_
  refine WC.region ?_
  refine WL.ac rfl rfl rfl (Ac.alloc M0 (l := ittC itt0) (by kernel_rfl)) ?_; rintro v1 w1 ⟨go, rfl, hg1, K1, M1⟩
  refine WL.ex rfl rfl rfl (Ex.asg rfl) ?_
  refine WL.nil ?_
  refine WX.next (?_)
  refine WC.seq ?_
  refine WC.region ?_
  refine WL.ex rfl rfl rfl (Ex.mv rfl) ?_
  refine WL.ac rfl rfl rfl (Ac.call rfl Try.func27 nm27 rfl (of_ok w1 _ _ _ (M1.rd hr) hb)) ?_; rintro v4 w4 ⟨gr, D, rfl, N4⟩
  have M4 := M1.new N4
  refine WL.ex rfl rfl rfl (Ex.asg rfl) ?_
  refine WL.nil ?_
  refine WX.next (?_)
  refine WC.seq ?_
  refine WC.region ?_
  refine WL.ex rfl rfl rfl (Ex.mv rfl) ?_
  refine WL.ac rfl rfl rfl (Ac.call rfl Try.func44 nm44 rfl (iGet_walk w4 _ _ _ _ (M4.get (i := 0) rfl) (fun h => absurd rfl h))) ?_; rintro v7 w7 ⟨rfl, T7⟩
  have M7 := M4.turned (i := 0) rfl T7
  try dsimp only [List.set] at M7
  refine WL.ac rfl rfl rfl (Ac.alloc M7 (l := ittC itt0) (by kernel_rfl)) ?_; rintro v8 w8 ⟨gx, rfl, hg8, K8, M8⟩
  refine WL.ac0 rfl rfl (Ac.stA M8 ty72 rfl rfl (vs := ittC (iGet (l, 0)).1) rfl (itt_len hx) itt_one (i := 0) rfl (by rw [itt_len hx, itt_len itt0_ok]; decide)) ?_; rintro v9 w9 ⟨K9, M9⟩
  try dsimp only [List.set] at M9
  rw [splice_all _ _ (by rw [itt_len hx, itt_len itt0_ok])] at M9
  refine WL.nil ?_
  refine WX.next (?_)
  refine WC.seq ?_
  refine WC.seq ?_
  refine WC.region ?_
  refine WL.ex rfl rfl rfl (Ex.mv rfl) ?_
  refine WL.ac rfl rfl rfl (Ac.call rfl Try.func40 nm40 rfl (rEnd_ok w9 _ _ (iGet (l, 0)).2.1 (iGet (l, 0)).2.2 (M9.get (i := 1) rfl))) ?_; rintro v11 w11 ⟨rfl, rfl⟩
  obtain ⟨e, he⟩ : ∃ e, e = endE (iGet (l, 0)).2 := ⟨_, rfl⟩
  rw [show (if (iGet (l, 0)).2.2 = 0 ∧ (iGet (l, 0)).2.1 ≠ [] then 5 else (iGet (l, 0)).2.2) = e from he.symm]
  refine WL.ex rfl rfl rfl (Ex.asg rfl) ?_
  refine WL.nil ?_
  refine WX.next (?_)
  refine WC.seq ?_
  refine WC.region ?_
  refine WL.ex rfl rfl rfl (Ex.mv rfl) ?_
  refine WL.ex rfl rfl rfl (Ex.neI rfl rfl) ?_
  refine WL.nil ?_
  refine WX.next (?_)
  refine WC.cond rfl (fun hq => ?_) (fun hq => ?_)
  · have hq2 : e ≠ 0 := by simpa using hq
    have hR : iRead l = (itt0, e) := by rw [iRead, ← he, if_pos hq2]
    refine WC.seq ?_
    refine WC.region ?_
    refine WL.ex rfl rfl rfl (Ex.bld bd72 (parts := []) (l := ittC itt0) rfl rfl rfl rfl) ?_
    refine WL.ex rfl rfl rfl (Ex.mv rfl) ?_
    refine WL.ac0 rfl rfl (Ac.stA M9 ty72 rfl rfl (vs := ittC itt0) rfl rfl itt_one (i := 2) rfl (Nat.le_refl _)) ?_; rintro v17 w17 ⟨K17, M17⟩
    try dsimp only [List.set] at M17
    rw [splice_all _ _ rfl] at M17
    refine WL.ex rfl rfl rfl (Ex.asg rfl) ?_
    refine WL.nil ?_
    refine WX.next (?_)
    refine WC.ret ?_
    refine WX.ret_then (?_)
    refine WX.retn rfl (.cell rfl (run_loadVarA ty72 (by first | rfl | exact itt_len hx) (M17.rdw (i := 2) rfl)) (.tmp rfl .nil)) rfl ?_
    rw [hR]
    exact ⟨rfl, M17.keep⟩
  · have hq2 : e = 0 := by simpa using hq
    have hR : iRead l = ((iGet (l, 0)).1, 0) := by rw [iRead, ← he, if_neg (fun h => h hq2)]
    refine WC.skip ?_
    refine WX.next (?_)
    refine WC.seq ?_
    refine WC.region ?_
    refine WL.ex rfl rfl rfl (Ex.loadA ty72 rfl (l := ittC (iGet (l, 0)).1) (itt_len hx) (M9.rdw (i := 0) rfl)) ?_
    refine WL.ac0 rfl rfl (Ac.stA M9 ty72 rfl rfl (vs := ittC (iGet (l, 0)).1) rfl (itt_len hx) itt_one (i := 2) rfl (by rw [itt_len hx, itt_len itt0_ok]; decide)) ?_; rintro v20 w20 ⟨K20, M20⟩
    try dsimp only [List.set] at M20
    rw [splice_all _ _ (by rw [itt_len hx, itt_len itt0_ok])] at M20
    refine WL.ex rfl rfl rfl (Ex.asg rfl) ?_
    refine WL.nil ?_
    refine WX.next (?_)
    refine WC.ret ?_
    refine WX.retn rfl (.cell rfl (run_loadVarA ty72 (by first | rfl | exact itt_len hx) (M20.rdw (i := 2) rfl)) (.tmp rfl .nil)) rfl ?_
    rw [hR]
    exact ⟨rfl, M20.keep⟩

/- sponsion/sponsionref07.Get -/
theorem get7_ok (w : World) (l : List UInt8) (e : Int) (h0 : e ≠ 0 → l = []) :
    Gives Try.prog 46 #[.agg #[str l, .int .i64 e]] w fun u w1 => u = .tuple #[rsV (iGet (l, e)).2, .agg (ittC (iGet (l, e)).1).toArray] ∧ Keep nof w w1 := by
  have M0 := Mem.start w nof
  refine Gives.enter (n := 37) Try.func46 rfl Try.ntmps46 rfl (env := [(0, .agg #[str l, .int .i64 e])]) rfl ?_
  refine WC.seq ?_
  refine WC.region ?_
  refine WL.ac rfl rfl rfl (Ac.box M0 (l := [str l, .int .i64 e]) rfl rfl) ?_; rintro v1 w1 ⟨g1, rfl, hg1, K1, M1⟩
  refine WL.ac rfl rfl rfl (Ac.alloc M1 (l := [str [], .int .i64 0]) (by kernel_rfl)) ?_; rintro v2 w2 ⟨g2, rfl, hg2, K2, M2⟩
  refine WL.ac rfl rfl rfl (Ac.alloc M2 (l := ittC itt0) (by kernel_rfl)) ?_; rintro v3 w3 ⟨g3, rfl, hg3, K3, M3⟩
  refine WL.nil ?_
  refine WX.next (?_)
  refine WC.seq ?_
  refine WC.region ?_
  refine WL.ex rfl rfl rfl (Ex.loadA ty53 rfl (l := [str l, .int .i64 e]) rfl (M3.rdw (i := 2) rfl)) ?_
  refine WL.ac rfl rfl rfl (Ac.call rfl Try.func28 nm28 rfl (take4_ok w3 l e 38 h0)) ?_; rintro v5 w5 ⟨⟨ok, rfl, hok⟩, K5⟩
  have M5 := M3.step K5
  refine WL.ex rfl rfl rfl (Ex.mv rfl) ?_
  refine WL.ex rfl rfl rfl (Ex.ext rfl rfl) ?_
  refine WL.ex rfl rfl rfl (Ex.ext rfl rfl) ?_
  refine WL.ex rfl rfl rfl (Ex.ext rfl rfl) ?_
  rcases Bool.eq_false_or_eq_true ok with hq | hq <;> subst hq
  · obtain ⟨rfl, hc2⟩ := hok.1 rfl
    obtain ⟨A, B, C, Dd, L, hA, hB, hC, hD, rfl⟩ := split38 hc2
    obtain ⟨hT1, hT2⟩ := take38 (L := L) hA hB hC hD
    have hT : rTake (A ++ (B ++ (C ++ (Dd ++ L))), 0) 38 = (A ++ (B ++ (C ++ Dd)), (L, 0)) := by rw [rTake, if_neg (by simp only [List.length_append, hA, hB, hC, hD]; omega)]; simp only [hT1, hT2]
    have hG := iGet_app (L := L) hA hB hC hD
    obtain ⟨b0, rfl⟩ : ∃ b, B = [b] := List.length_eq_one_iff.1 hB
    obtain ⟨c0, rfl⟩ : ∃ b, C = [b] := List.length_eq_one_iff.1 hC
    have hb1 : beVal [b0] = b0.toNat := by simp [beVal]
    have hc1 : beVal [c0] = c0.toNat := by simp [beVal]
    rw [hb1, hc1] at hG
    have hx : IttOk ⟨beVal A, b0.toNat, c0.toNat, ofB Dd⟩ := by have := ittOf_ok (b := A ++ ([b0] ++ ([c0] ++ Dd))) (by simp [hA, hD]); rwa [ittOf_app hA hB hC, hb1, hc1] at this
    rw [hT]
    refine WL.ac rfl rfl rfl (Ac.alloc M5 (l := [str [], .int .i64 0]) (by kernel_rfl)) ?_; rintro v10 w10 ⟨g4, rfl, hg10, K10, M10⟩
    refine WL.ac0 rfl rfl (Ac.stA M10 ty53 rfl rfl (vs := [str L, .int .i64 0]) rfl rfl (by simp [str, Value.oneCell']) (i := 0) rfl (by simp)) ?_; rintro v11 w11 ⟨K11, M11⟩
    try dsimp only [List.set] at M11
    rw [splice_all _ _ (by simp)] at M11
    refine WL.ex rfl rfl rfl (Ex.asg rfl) ?_
    refine WL.ex rfl rfl rfl (Ex.asg rfl) ?_
    refine WL.nil ?_
    refine WX.next (?_)
    refine WC.seq ?_
    refine WC.seq ?_
    refine WC.region ?_
    refine WL.ex rfl rfl rfl (Ex.mv rfl) ?_
    refine WL.ex rfl rfl rfl (Ex.not rfl) ?_
    refine WL.nil ?_
    refine WX.next (?_)
    refine WC.no rfl ?_
    refine WC.skip ?_
    refine WX.next (?_)
    refine WC.cut (σ := Nat) (fun g7 => [(2, .pointer (some ⟨g2, 0, none⟩)), (3, .pointer (some ⟨g3, 0, none⟩)), (4, .pointer (some ⟨g4, 0, none⟩)), (7, .pointer (some ⟨g7, 0, none⟩))]) (fun g7 wr => Mem w wr nof [blk g7 (ittC ⟨beVal A, b0.toNat, c0.toNat, ofB Dd⟩) 72, blk g4 [str L, .int .i64 0] 53, blk g3 (ittC itt0) 72, blk g2 [str [], .int .i64 0] 53, blk g1 [str (A ++ ([b0] ++ ([c0] ++ (Dd ++ L)))), .int .i64 0] 53]) ?_ ?_
    ·
      refine WC.draw (Keep nof w11.drew) [2, 10, 12, 13] (.one 0 0 (.one 1 0 (.one 4 0 (.one 5 0 (.one 6 0 (.one 7 0 (.one 8 0 (.one 9 0 (.two 2 (.one 3 0 (.two 10 (.one 11 0 (.one 12 2 (.one 13 2 .nil))) 12 (.one 10 2 (.one 11 0 (.one 13 2 .nil))))) 12 (.one 2 2 (.one 3 0 (.one 10 2 (.one 11 0 (.one 13 2 .nil)))))))))))))) mixed (by kernel_rfl) (by kernel_rfl) (by kernel_rfl) (HQ.then_ HQ.body) ?_
      obtain ⟨w16, hw16⟩ : ∃ v, v = w11.drew := ⟨_, rfl⟩
      have D16 : Keep nof w11 w16 := by rw [hw16]; exact Keep.drew _ _
      have M16 := M11.step D16
      rw [← hw16]; clear hw16
      refine WP.p rfl rfl rfl rfl (fun _ => Ex.mv rfl) ?_
      refine WP.p rfl rfl rfl rfl (fun _ => Ex.slSh Try.underlying9 rfl rfl (by decide) (by simp [hA]; omega)) ?_
      rw [show (A ++ ([b0] ++ ([c0] ++ Dd))).take (4 : Int).toNat = A by rw [show (4 : Int).toNat = A.length by rw [hA]; rfl]; exact List.take_left]
      refine WP.p rfl rfl rfl rfl (fun _ => Ex.mv rfl) ?_
      refine WP.p rfl rfl rfl rfl (fun _ => Ex.ixS Try.underlying9 rfl rfl (by decide) (b := b0) (by show (A ++ ([b0] ++ ([c0] ++ Dd)))[4]? = some b0; rw [List.getElem?_append_right (by omega), hA]; rfl)) ?_
      refine WP.p rfl rfl rfl rfl (fun _ => Ex.mv rfl) ?_
      refine WP.p rfl rfl rfl rfl (fun _ => Ex.ixS Try.underlying9 rfl rfl (by decide) (b := c0) (by show (A ++ ([b0] ++ ([c0] ++ Dd)))[5]? = some c0; rw [List.getElem?_append_right (by omega), hA]; rfl)) ?_
      refine WP.p rfl rfl rfl rfl (fun _ => Ex.mv rfl) ?_
      refine WP.p rfl rfl rfl rfl (fun _ => Ex.slSl Try.underlying9 rfl rfl (by decide) (by simp [hA, hD])) ?_
      rw [show (A ++ ([b0] ++ ([c0] ++ Dd))).drop (6 : Int).toNat = Dd by show (A ++ ([b0] ++ ([c0] ++ Dd))).drop 6 = Dd; rw [List.drop_append, List.drop_eq_nil_of_le (by omega), hA]; rfl]
      refine WP.two ?_ ?_
      · skip
        refine WP.a rfl rfl rfl rfl (Ac.call rfl Try.func30 nm30 rfl (value4_ok w16 _ (by omega))) ?_; rintro v25 w25 ⟨rfl, K25⟩; refine .inl ⟨rfl, Keep nof w25, ?_⟩
        have M25 := M16.step K25
        refine WP.p rfl rfl rfl rfl (fun _ => Ex.cvI Try.underlying33 Try.underlying43 rfl (u32w_lt _ (by have := beVal_lt_of (l := A) (n := 4) (by omega); omega))) ?_
        refine WP.two ?_ ?_
        · skip
          refine WP.a rfl rfl rfl rfl (Ac.call rfl Try.func34 nm34 rfl (intOf4_ok w25 _ hD)) ?_; rintro v27 w27 ⟨rfl, K27⟩; refine .inl ⟨rfl, Keep nof w27, ?_⟩
          have M27 := M25.step K27
          refine WP.p rfl rfl rfl rfl (fun _ => Ex.bldS bd72 (parts := [(0, .tmp 21), (1, .tmp 23), (2, .tmp 25), (3, .tmp 28)]) _ rfl rfl rfl (bldItt (ofB_len Dd))) ?_
          refine WP.a rfl rfl rfl rfl (Ac.alloc M27 (l := ittC itt0) (by kernel_rfl)) ?_; rintro v29 w29 ⟨g7, rfl, hg29, K29, M29⟩; refine .inl ⟨rfl, Keep nof w29, ?_⟩
          refine WP.a0 rfl rfl rfl (Ac.stA M29 ty72 rfl rfl (vs := ittC ⟨beVal A, b0.toNat, c0.toNat, ofB Dd⟩) rfl (itt_len hx) itt_one (i := 0) rfl (by rw [itt_len hx, itt_len itt0_ok]; decide)) ?_; rintro v30 w30 ⟨K30, M30⟩; refine .inl ⟨rfl, Keep nof w30, ?_⟩
          try dsimp only [List.set] at M30
          rw [splice_all _ _ (by rw [itt_len hx, itt_len itt0_ok])] at M30
          refine WP.nil ?_
          refine WX.join (g7) ?_ (.cons rfl (.cons rfl (.cons rfl (.cons rfl (.nil)))))
          exact M30
        · skip
          refine WP.a rfl rfl rfl rfl (Ac.alloc M25 (l := ittC itt0) (by kernel_rfl)) ?_; rintro v31 w31 ⟨g7, rfl, hg31, K31, M31⟩; refine .inl ⟨rfl, Keep nof w31, ?_⟩
          refine WP.a rfl rfl rfl rfl (Ac.call rfl Try.func34 nm34 rfl (intOf4_ok w31 _ hD)) ?_; rintro v32 w32 ⟨rfl, K32⟩; refine .inl ⟨rfl, Keep nof w32, ?_⟩
          have M32 := M31.step K32
          refine WP.p rfl rfl rfl rfl (fun _ => Ex.bldS bd72 (parts := [(0, .tmp 21), (1, .tmp 23), (2, .tmp 25), (3, .tmp 28)]) _ rfl rfl rfl (bldItt (ofB_len Dd))) ?_
          refine WP.a0 rfl rfl rfl (Ac.stA M32 ty72 rfl rfl (vs := ittC ⟨beVal A, b0.toNat, c0.toNat, ofB Dd⟩) rfl (itt_len hx) itt_one (i := 0) rfl (by rw [itt_len hx, itt_len itt0_ok]; decide)) ?_; rintro v34 w34 ⟨K34, M34⟩; refine .inl ⟨rfl, Keep nof w34, ?_⟩
          try dsimp only [List.set] at M34
          rw [splice_all _ _ (by rw [itt_len hx, itt_len itt0_ok])] at M34
          refine WP.nil ?_
          refine WX.join (g7) ?_ (.cons rfl (.cons rfl (.cons rfl (.cons rfl (.nil)))))
          exact M34
      · skip
        refine WP.a rfl rfl rfl rfl (Ac.alloc M16 (l := ittC itt0) (by kernel_rfl)) ?_; rintro v35 w35 ⟨g7, rfl, hg35, K35, M35⟩; refine .inl ⟨rfl, Keep nof w35, ?_⟩
        refine WP.a rfl rfl rfl rfl (Ac.call rfl Try.func30 nm30 rfl (value4_ok w35 _ (by omega))) ?_; rintro v36 w36 ⟨rfl, K36⟩; refine .inl ⟨rfl, Keep nof w36, ?_⟩
        have M36 := M35.step K36
        refine WP.p rfl rfl rfl rfl (fun _ => Ex.cvI Try.underlying33 Try.underlying43 rfl (u32w_lt _ (by have := beVal_lt_of (l := A) (n := 4) (by omega); omega))) ?_
        refine WP.a rfl rfl rfl rfl (Ac.call rfl Try.func34 nm34 rfl (intOf4_ok w36 _ hD)) ?_; rintro v38 w38 ⟨rfl, K38⟩; refine .inl ⟨rfl, Keep nof w38, ?_⟩
        have M38 := M36.step K38
        refine WP.p rfl rfl rfl rfl (fun _ => Ex.bldS bd72 (parts := [(0, .tmp 21), (1, .tmp 23), (2, .tmp 25), (3, .tmp 28)]) _ rfl rfl rfl (bldItt (ofB_len Dd))) ?_
        refine WP.a0 rfl rfl rfl (Ac.stA M38 ty72 rfl rfl (vs := ittC ⟨beVal A, b0.toNat, c0.toNat, ofB Dd⟩) rfl (itt_len hx) itt_one (i := 0) rfl (by rw [itt_len hx, itt_len itt0_ok]; decide)) ?_; rintro v40 w40 ⟨K40, M40⟩; refine .inl ⟨rfl, Keep nof w40, ?_⟩
        try dsimp only [List.set] at M40
        rw [splice_all _ _ (by rw [itt_len hx, itt_len itt0_ok])] at M40
        refine WP.nil ?_
        refine WX.join (g7) ?_ (.cons rfl (.cons rfl (.cons rfl (.cons rfl (.nil)))))
        exact M40
    · rintro g7 w41 M41
      refine WC.seq ?_
      refine WC.seq ?_
      refine WC.region ?_
      refine WL.ex rfl rfl rfl (Ex.loadA ty72 rfl (l := ittC ⟨beVal A, b0.toNat, c0.toNat, ofB Dd⟩) (itt_len hx) (M41.rdw (i := 0) rfl)) ?_
      refine WL.ac rfl rfl rfl (Ac.call rfl Try.func43 nm43 rfl (may7_ok w41 _ ‹_›)) ?_; rintro v43 w43 ⟨rfl, K43⟩
      have M43 := M41.step K43
      by_cases hm : mayI ⟨beVal A, b0.toNat, c0.toNat, ofB Dd⟩
      · rw [decide_eq_true hm]
        rw [if_pos hm] at hG
        refine WL.ex rfl rfl rfl (Ex.not rfl) ?_
        refine WL.nil ?_
        refine WX.next (?_)
        refine WC.no rfl ?_
        refine WC.skip ?_
        refine WX.next (?_)
        refine WC.seq ?_
        have hne7 : g7 ∉ [g2] := M43.apart (i := 0) (j := 3) rfl rfl (by decide) g7 (by simp [blk])
        have hne4 : g4 ∉ [g2] := M43.apart (i := 1) (j := 3) rfl rfl (by decide) g4 (by simp [blk])
        refine WC.draw (Keep (· ∈ [g2]) w43.drew) [3] (.one 0 1 (.one 1 1 (.one 2 2 (.one 3 2 .nil)))) mixed (by kernel_rfl) (by kernel_rfl) (by kernel_rfl) (HQ.then_ HQ.body) ?_
        obtain ⟨w45, hw45⟩ : ∃ v, v = w43.drew := ⟨_, rfl⟩
        have D45 : Keep nof w43 w45 := by rw [hw45]; exact Keep.drew _ _
        have M45 := M43.step D45
        rw [← hw45]; clear hw45
        refine WP.q (Keep.refl _ _) rfl rfl rfl rfl (fun w' hS => Ex.loadA ty53 rfl (l := [str L, .int .i64 0]) rfl ((M45.rdw (i := 1) rfl).keep hS (fun a ha => by cases ha; exact hne4))) ?_
        refine WP.q (Keep.refl _ _) rfl rfl rfl rfl (fun w' hS => Ex.loadA ty72 rfl (l := ittC ⟨beVal A, b0.toNat, c0.toNat, ofB Dd⟩) (itt_len hx) ((M45.rdw (i := 0) rfl).keep hS (fun a ha => by cases ha; exact hne7))) ?_
        refine WP.a0 rfl rfl rfl (Ac.stA M45 ty53 rfl rfl (vs := [str L, .int .i64 0]) rfl rfl (by simp [str, Value.oneCell']) (i := 3) rfl (by simp)) ?_; rintro v48 w48 ⟨K48, M48⟩; refine .inr ⟨fun h => h.trans K48, ?_⟩
        try dsimp only [List.set] at M48
        rw [splice_all _ _ (by simp)] at M48
        refine WP.a0 rfl rfl rfl (Ac.stA M48 ty72 rfl rfl (vs := ittC ⟨beVal A, b0.toNat, c0.toNat, ofB Dd⟩) rfl (itt_len hx) itt_one (i := 2) rfl (by rw [itt_len hx, itt_len itt0_ok]; decide)) ?_; rintro v49 w49 ⟨K49, M49⟩; refine .inl ⟨rfl, Keep nof w49, ?_⟩
        try dsimp only [List.set] at M49
        rw [splice_all _ _ (by rw [itt_len hx, itt_len itt0_ok])] at M49
        refine WP.nil ?_
        refine WX.next (?_)
        refine WC.ret ?_
        refine WX.retn rfl (.cell rfl (run_loadVarA ty53 (by first | rfl | exact itt_len hx) (M49.rdw (i := 3) rfl)) (.cell rfl (run_loadVarA ty72 (by first | rfl | exact itt_len hx) (M49.rdw (i := 2) rfl)) .nil)) rfl ?_
        first
          | (rw [hG]; exact ⟨rfl, M49.keep⟩)
          | exact ⟨rfl, M49.keep⟩
      · rw [decide_eq_false hm]
        rw [if_neg hm] at hG
        refine WL.ex rfl rfl rfl (Ex.not rfl) ?_
        refine WL.nil ?_
        refine WX.next (?_)
        refine WC.yes rfl ?_
        refine WC.seq ?_
        refine WC.region ?_
        refine WL.ex rfl rfl rfl (Ex.bld bd53 (parts := [(1, .const (.int .i64 6))]) (l := [str [], .int .i64 6]) rfl rfl rfl rfl) ?_
        refine WL.ex rfl rfl rfl (Ex.bld bd72 (parts := []) (l := ittC itt0) rfl rfl rfl rfl) ?_
        refine WL.ac0 rfl rfl (Ac.stA M43 ty53 rfl rfl (vs := [str [], .int .i64 6]) rfl rfl (by simp [str, Value.oneCell']) (i := 3) rfl (by simp)) ?_; rintro v53 w53 ⟨K53, M53⟩
        try dsimp only [List.set] at M53
        rw [splice_all _ _ (by simp)] at M53
        refine WL.ac0 rfl rfl (Ac.stA M53 ty72 rfl rfl (vs := ittC itt0) rfl rfl itt_one (i := 2) rfl (Nat.le_refl _)) ?_; rintro v54 w54 ⟨K54, M54⟩
        try dsimp only [List.set] at M54
        rw [splice_all _ _ rfl] at M54
        refine WL.nil ?_
        refine WX.next (?_)
        refine WC.ret ?_
        refine WX.ret_then (?_)
        refine WX.retn rfl (.cell rfl (run_loadVarA ty53 (by first | rfl | exact itt_len hx) (M54.rdw (i := 3) rfl)) (.cell rfl (run_loadVarA ty72 (by first | rfl | exact itt_len hx) (M54.rdw (i := 2) rfl)) .nil)) rfl ?_
        first
          | (rw [hG]; exact ⟨rfl, M54.keep⟩)
          | exact ⟨rfl, M54.keep⟩
  · have hc : ¬ (e = 0 ∧ 38 ≤ l.length) := fun h => by have := hok.2 h; cases this
    rw [rTake_short h0 (by decide) hc, iGet_short (s := (l, e)) hc]
    obtain ⟨l1, e1⟩ := rFail (l, e) 4
    refine WL.ac rfl rfl rfl (Ac.alloc M5 (l := [str [], .int .i64 0]) (by kernel_rfl)) ?_; rintro v55 w55 ⟨g4, rfl, hg55, K55, M55⟩
    refine WL.ac0 rfl rfl (Ac.stA M55 ty53 rfl rfl (vs := [str l1, .int .i64 e1]) rfl rfl (by simp [str, Value.oneCell']) (i := 0) rfl (by simp)) ?_; rintro v56 w56 ⟨K56, M56⟩
    try dsimp only [List.set] at M56
    rw [splice_all _ _ (by simp)] at M56
    refine WL.ex rfl rfl rfl (Ex.asg rfl) ?_
    refine WL.ex rfl rfl rfl (Ex.asg rfl) ?_
    refine WL.nil ?_
    refine WX.next (?_)
    refine WC.seq ?_
    refine WC.seq ?_
    refine WC.region ?_
    refine WL.ex rfl rfl rfl (Ex.mv rfl) ?_
    refine WL.ex rfl rfl rfl (Ex.not rfl) ?_
    refine WL.nil ?_
    refine WX.next (?_)
    refine WC.yes rfl ?_
    refine WC.seq ?_
    refine WC.region ?_
    refine WL.ex rfl rfl rfl (Ex.loadA ty53 rfl (l := [str l1, .int .i64 e1]) rfl (M56.rdw (i := 0) rfl)) ?_
    refine WL.ex rfl rfl rfl (Ex.bld bd72 (parts := []) (l := ittC itt0) rfl rfl rfl rfl) ?_
    refine WL.ac0 rfl rfl (Ac.stA M56 ty53 rfl rfl (vs := [str l1, .int .i64 e1]) rfl rfl (by simp [str, Value.oneCell']) (i := 2) rfl (by simp)) ?_; rintro v63 w63 ⟨K63, M63⟩
    try dsimp only [List.set] at M63
    rw [splice_all _ _ (by simp)] at M63
    refine WL.ac0 rfl rfl (Ac.stA M63 ty72 rfl rfl (vs := ittC itt0) rfl rfl itt_one (i := 1) rfl (Nat.le_refl _)) ?_; rintro v64 w64 ⟨K64, M64⟩
    try dsimp only [List.set] at M64
    rw [splice_all _ _ rfl] at M64
    refine WL.nil ?_
    refine WX.next (?_)
    refine WC.ret ?_
    refine WX.ret_then (?_)
    refine WX.retn rfl (.cell rfl (run_loadVarA ty53 (by first | rfl | exact itt_len hx) (M64.rdw (i := 2) rfl)) (.cell rfl (run_loadVarA ty72 (by first | rfl | exact itt_len hx) (M64.rdw (i := 1) rfl)) .nil)) rfl ?_
    first
      | (rw [hG]; exact ⟨rfl, M64.keep⟩)
      | exact ⟨rfl, M64.keep⟩

end Go.Proofs.Ytpngjgcbdaogmaa
