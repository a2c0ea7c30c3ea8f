/- Walks, written by gen.py off the translation's own print: each says what the Go function comes to. -/
import Derived.Test.YtfncnpnjhcaphaaDoorEb
import Derived.Test.YtfncnpnjhcaphaaDoorCf
import Derived.Test.YtfncnpnjhcaphaaDoorAbc
set_option linter.unusedVariables false
set_option linter.unusedSimpArgs false
namespace Go.Proofs.YtfncnpnjhcaphaaDoor
open Go.Sx Go.RowKit
attribute [local irreducible] Ac Ex WL WC WX WP Gives

theorem eqInt (w : World) {a b : List Nat} (ha : Int4 a) (hb : Int4 b) : EqT Tryd.prog 55 (intV a) (intV b) (decide (a = b)) :=
  EqT.to (EqT_of (w := w) (n := 8) (ks := rep 4 [.int .u64]) (by kernel_rfl) rfl (by kernel_rfl) (by decide) (by kernel_rfl) (by kernel_rfl) (by kernel_rfl)
    (by have := oks_u64 (w := w) a ha.mem; rw [ha.1] at this; exact this) (by have := oks_u64 (w := w) b hb.mem; rw [hb.1] at this; exact this)) ⟨intV_inj, fun e => by rw [e]⟩
theorem eqHash (w : World) {a b : List UInt8} (ha : a.length = 32) (hb : b.length = 32) : EqT Tryd.prog 25 (bytesV a) (bytesV b) (decide (a = b)) :=
  EqT.to (EqT_of (w := w) (n := 8) (ks := rep 32 [.int .u8]) (by kernel_rfl) rfl (by kernel_rfl) (by decide) (by kernel_rfl) (by kernel_rfl) (by kernel_rfl)
    (by have := oks_u8 (w := w) a; rw [ha] at this; exact this) (by have := oks_u8 (w := w) b; rw [hb] at this; exact this)) ⟨bytesV_inj, fun e => by rw [e]⟩

theorem RdP.one {w : World} {gs : Nat} {p : SV} {e : TypeId} (h0 : (blk gs [svV p] e).sat w) (hr : Rd w p.A (bytesV p.l)) : RdP w (some ⟨gs, 0, none⟩) [p] :=
  ⟨blk_rdt (o := 0) (m := 1) (xs := [svV p]) h0 rfl, fun q hq => by obtain rfl : q = p := (by simpa using hq); exact hr⟩
theorem flatP_one (A : Option Addr) (c : Nat) (l : List UInt8) : flatP [⟨A, c, l⟩] = l := by simp [flatP]
theorem shaH (l : List UInt8) : H32 (sha l) := sha_length l

/- sponsion/sponsionlaw05.lives -/
theorem lives05_ok (w : World) (hT : Tabs w) :
    Gives Tryd.prog 12 #[] w fun u w1 => u = .bool true ∧ Keep nof w w1 := by
  have M0 := Mem.start w nof
  have hs32 : H32 (sha [97, 98, 99]) := sha_length _
  obtain ⟨r, hr⟩ := sha_abc_0
  obtain ⟨S, hS⟩ : ∃ S, S = sha [97, 98, 99] := ⟨_, rfl⟩
  rw [← hS] at hs32 hr
  refine Gives.enter (n := 24) Tryd.func12 rfl Tryd.ntmps12 rfl (env := []) rfl ?_
  refine WC.seq ?_
  refine WC.region ?_
  refine WL.ex rfl rfl rfl (Ex.asg rfl) ?_
  refine WL.nil ?_
  refine WX.next (?_)
  refine WC.seq ?_
  refine WC.region ?_
  refine WL.ac rfl rfl rfl (Ac.bs M0 (parts := [(0, .const (.int .u8 97)), (1, .const (.int .u8 98)), (2, .const (.int .u8 99))]) (l := bytesV [97, 98, 99]) rfl rfl ⟨Tryd.underlying22, 1, #[.int .u8 0], sz5, by decide, fun _ => by kernel_rfl, by kernel_rfl⟩) ?_; rintro v2 w2 ⟨g1, rfl, hg2, K2, M2⟩
  refine WL.ac rfl rfl rfl (Ac.cvm M2 Tryd.underlying22 Tryd.underlying5 rfl (i := 0) rfl) ?_; rintro v3 w3 ⟨rfl, K3, M3⟩
  try dsimp only [List.set] at M3
  refine WL.ac rfl rfl rfl (Ac.bs M3 (parts := [(0, .tmp 3)]) (l := [svV ⟨some ⟨g1, 0, none⟩, 3, [97, 98, 99]⟩]) rfl rfl (LitS.one el29 rfl)) ?_; rintro v4 w4 ⟨g2, rfl, hg4, K4, M4⟩
  refine WL.ac rfl rfl rfl (Ac.call rfl Tryd.func13 nm13 rfl (dsum_ok w4 _ 1 [⟨some ⟨g1, 0, none⟩, 3, [97, 98, 99]⟩] ⟨M4.rdw (i := 0) rfl, by
        intro p hp
        obtain rfl : p = _ := by simpa using hp
        exact M4.rdw (i := 1) rfl⟩ (hT.keep M4.keep) (by simp [flatP]) (by simp))) ?_; rintro v5 w5 ⟨rfl, K5⟩
  rw [show flatP [⟨some ⟨g1, 0, none⟩, 3, [97, 98, 99]⟩] = [97, 98, 99] from rfl, ← hS]
  have M5 := M4.step K5
  refine WL.ac rfl rfl rfl (Ac.alloc M5 (l := bytesV (List.replicate 32 0)) (by kernel_rfl)) ?_; rintro v6 w6 ⟨gh, rfl, hg6, K6, M6⟩
  refine WL.ac0 rfl rfl (Ac.stA M6 ty25 rfl rfl rfl (h32_len (by first | assumption | exact h32_0)) (bytesV_one _) (i := 0) rfl (by rw [h32_len (by first | assumption | exact h32_0), h32_len (by first | assumption | exact h32_0)]; decide)) ?_; rintro v7 w7 ⟨K7, M7⟩
  try dsimp only [List.set] at M7
  rw [splice_all _ _ (by rw [h32_len (by first | assumption | exact h32_0), h32_len (by first | assumption | exact h32_0)])] at M7
  rw [hr] at M7
  refine WL.nil ?_
  refine WX.next (?_)
  refine WC.seq ?_
  refine WC.region ?_
  refine WL.ex rfl rfl rfl (Ex.iaA Tryd.underlying25 sz5 rfl rfl ⟨by omega, by omega⟩) ?_
  refine WL.ex rfl rfl rfl (Ex.load ty5 rfl (M7.cell (i := 0) (v := .int .u8 186) rfl rfl)) ?_
  refine WL.ex rfl rfl rfl (Ex.eqI rfl rfl) ?_
  rw [decide_eq_true rfl]
  refine WL.ex rfl rfl rfl (Ex.mv rfl) ?_
  refine WL.yes rfl rfl rfl rfl ?_
  refine WL.ex rfl rfl rfl (Ex.iaA Tryd.underlying25 sz5 rfl rfl ⟨by omega, by omega⟩) ?_
  refine WL.yes rfl rfl rfl rfl ?_
  refine WL.ex rfl rfl rfl (Ex.load ty5 rfl (M7.cell (i := 0) (v := .int .u8 120) rfl rfl)) ?_
  refine WL.yes rfl rfl rfl rfl ?_
  refine WL.ex rfl rfl rfl (Ex.eqI rfl rfl) ?_
  rw [decide_eq_true rfl]
  refine WL.ex rfl rfl rfl (Ex.pickT rfl rfl) ?_
  refine WL.ex rfl rfl rfl (Ex.mv rfl) ?_
  refine WL.yes rfl rfl rfl rfl ?_
  refine WL.ex rfl rfl rfl (Ex.iaA Tryd.underlying25 sz5 rfl rfl ⟨by omega, by omega⟩) ?_
  refine WL.yes rfl rfl rfl rfl ?_
  refine WL.ex rfl rfl rfl (Ex.load ty5 rfl (M7.cell (i := 0) (v := .int .u8 22) rfl rfl)) ?_
  refine WL.yes rfl rfl rfl rfl ?_
  refine WL.ex rfl rfl rfl (Ex.eqI rfl rfl) ?_
  rw [decide_eq_true rfl]
  refine WL.ex rfl rfl rfl (Ex.pickT rfl rfl) ?_
  refine WL.ex rfl rfl rfl (Ex.mv rfl) ?_
  refine WL.yes rfl rfl rfl rfl ?_
  refine WL.ex rfl rfl rfl (Ex.iaA Tryd.underlying25 sz5 rfl rfl ⟨by omega, by omega⟩) ?_
  refine WL.yes rfl rfl rfl rfl ?_
  refine WL.ex rfl rfl rfl (Ex.load ty5 rfl (M7.cell (i := 0) (v := .int .u8 191) rfl rfl)) ?_
  refine WL.yes rfl rfl rfl rfl ?_
  refine WL.ex rfl rfl rfl (Ex.eqI rfl rfl) ?_
  rw [decide_eq_true rfl]
  refine WL.ex rfl rfl rfl (Ex.pickT rfl rfl) ?_
  refine WL.ex rfl rfl rfl (Ex.asg rfl) ?_
  refine WL.nil ?_
  refine WX.next (?_)
  refine WC.ret ?_
  refine WX.ret1 rfl rfl ?_
  exact ⟨rfl, M7.keep⟩
  -- UNUSED HINTS ['2.21']

/- sponsion/sponsionlaw05.DigestSums -/
theorem digestSums_walk (w : World) (A : Option Addr) (c : Nat) (b : List UInt8) (hr : Rd w A (bytesV b)) (hT : Tabs w) (hR : TabR w) :
    Gives Tryd.prog 3 #[.slice A b.length c] w fun u w1 => u = .bool true ∧ Keep nof w w1 := by
  have M0 := Mem.start w nof
  refine Gives.enter (n := 28) Tryd.func3 rfl Tryd.ntmps3 rfl (env := [(0, .slice A b.length c)]) rfl ?_
  refine WC.seq ?_
  refine WC.region ?_
  refine WL.ex rfl rfl rfl (Ex.asg rfl) ?_
  refine WL.nil ?_
  refine WX.next (?_)
  refine WC.seq ?_
  refine WC.seq ?_
  refine WC.region ?_
  refine WL.ac rfl rfl rfl (Ac.call rfl Tryd.func12 nm12 rfl (lives05_ok w (hT.keep M0.keep))) ?_; rintro v2 w2 ⟨rfl, K2⟩
  have M2 := M0.step K2
  refine WL.ex rfl rfl rfl (Ex.not rfl) ?_
  refine WL.ex rfl rfl rfl (Ex.mv rfl) ?_
  refine WL.yes rfl rfl rfl rfl ?_
  refine WL.ex rfl rfl rfl (Ex.mv rfl) ?_
  refine WL.yes rfl rfl rfl rfl ?_
  refine WL.ex rfl rfl rfl (Ex.len Tryd.underlying22 rfl) ?_
  refine WL.yes rfl rfl rfl rfl ?_
  refine WL.ex rfl rfl rfl (Ex.gtr rfl rfl) ?_
  refine WL.ex rfl rfl rfl (Ex.pickF rfl rfl) ?_
  refine WL.nil ?_
  refine WX.next (?_)
  refine WC.cond_dec rfl (fun hc10 => ?_) (fun hc10 => ?_)
  · skip
    refine WC.seq ?_
    refine WC.region ?_
    refine WL.ac rfl rfl rfl (Ac.call rfl Tryd.func12 nm12 rfl (lives05_ok w2 (hT.keep M2.keep))) ?_; rintro v9 w9 ⟨rfl, K9⟩
    have M9 := M2.step K9
    refine WL.ex rfl rfl rfl (Ex.asg rfl) ?_
    refine WL.nil ?_
    refine WX.next (?_)
    refine WC.ret ?_
    refine WX.ret_then (?_)
    refine WX.ret1 rfl rfl ?_
    exact ⟨rfl, M9.keep⟩
  · have hb4 : b.length ≤ 400 := by omega
    refine WC.skip ?_
    refine WX.next (?_)
    refine WC.seq ?_
    refine WC.region ?_
    refine WL.ac rfl rfl rfl (Ac.bs0 M2 Tryd.underlying22 sz5) ?_; rintro v11 w11 ⟨g11, rfl, hg11, K11, M11⟩
    refine WL.ex rfl rfl rfl (Ex.mv rfl) ?_
    refine WL.ac rfl rfl rfl (Ac.app M11 el22 rfl rfl (i := 0) rfl (by simp) (M11.rd hr) (bytesV_one _) (by omega) (by simp [maxLen]; omega)) ?_; rintro v13 w13 ⟨K13, M13⟩
    try dsimp only [List.set] at M13
    obtain ⟨v1, rfl⟩ : ∃ v1, v1 = v13 := ⟨_, rfl⟩
    simp only [Nat.zero_add, List.nil_append] at M13
    refine WL.ex rfl rfl rfl (Ex.asg rfl) ?_
    refine WL.nil ?_
    refine WX.next (?_)
    refine WC.seq ?_
    refine WC.region ?_
    obtain ⟨A1, c1, rfl⟩ := own_slice (M13.get (i := 0) rfl)
    refine WL.ex rfl rfl rfl (Ex.mv rfl) ?_
    refine WL.ac rfl rfl rfl (Ac.bs M13 (parts := [(0, .tmp 15)]) (l := [svV ⟨A1, c1, b⟩]) rfl rfl (LitS.one el29 rfl)) ?_; rintro v16 w16 ⟨g2, rfl, hg16, K16, M16⟩
    refine WL.ac rfl rfl rfl (Ac.call rfl Tryd.func13 nm13 rfl (dsum_ok w16 _ 1 [⟨A1, c1, b⟩] (RdP.one (M16.get (i := 0) rfl) (M16.rdr (i := 1) rfl)) (hT.keep M16.keep) (by rw [flatP_one]; omega) (by simp))) ?_; rintro v17 w17 ⟨rfl, K17⟩
    rw [flatP_one]
    have M17 := M16.step K17
    refine WL.ex rfl rfl rfl (Ex.mv rfl) ?_
    refine WL.ac rfl rfl rfl (Ac.call rfl Tryd.func14 nm14 rfl (rsum_ok w17 A c b (M17.rd hr) (hR.keep0 M17.keep) (by omega))) ?_; rintro v19 w19 ⟨rfl, K19⟩
    have M19 := M17.step K19
    refine WL.ex rfl rfl rfl (Ex.eqA rfl rfl (eqHash w (shaH b) (shaH b))) ?_
    rw [decide_eq_true rfl]
    refine WL.ex rfl rfl rfl (Ex.mv rfl) ?_
    refine WL.yes rfl rfl rfl rfl ?_
    refine WL.ex rfl rfl rfl (Ex.mv rfl) ?_
    refine WL.yes rfl rfl rfl rfl ?_
    refine WL.ex rfl rfl rfl (Ex.cvBS Tryd.underlying22 Tryd.underlying5 Tryd.underlying9 rfl (M19.rdr (i := 1) rfl)) ?_
    refine WL.yes rfl rfl rfl rfl ?_
    refine WL.ex rfl rfl rfl (Ex.mv rfl) ?_
    refine WL.yes rfl rfl rfl rfl ?_
    refine WL.ex rfl rfl rfl (Ex.cvBS Tryd.underlying22 Tryd.underlying5 Tryd.underlying9 rfl (M19.rd hr)) ?_
    refine WL.yes rfl rfl rfl rfl ?_
    refine WL.ex rfl rfl rfl (Ex.eqS rfl rfl) ?_
    rw [decide_eq_true rfl]
    refine WL.ex rfl rfl rfl (Ex.pickT rfl rfl) ?_
    refine WL.ex rfl rfl rfl (Ex.asg rfl) ?_
    refine WL.nil ?_
    refine WX.next (?_)
    refine WC.ret ?_
    refine WX.ret1 rfl rfl ?_
    exact ⟨rfl, M19.keep⟩

end Go.Proofs.YtfncnpnjhcaphaaDoor
