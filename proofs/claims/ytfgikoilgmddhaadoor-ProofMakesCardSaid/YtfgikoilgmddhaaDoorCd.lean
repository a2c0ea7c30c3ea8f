/- Walks, written by gen.py off the translation's own print: each says what the Go function comes to. -/
import Derived.Test.YtfgikoilgmddhaaDoorCc
set_option linter.unusedVariables false
set_option linter.unusedSimpArgs false
namespace Go.Proofs.YtfgikoilgmddhaaDoor
open Go.Sx Go.RowKit
attribute [local irreducible] Ac Ex WL WC WX WP Gives

/- (*sponsion/digest.State).Add -/
theorem sadd_ok (w : World) (g : Nat) (v0 : Value) (l : List UInt8) (A : Option Addr) (c : Nat) (ps : List SV) (h : (stR g v0 l).sat w) (hr : RdA w (stR g v0 l).fp A ps) (hT : Tabs w) (hg : g ≠ 1 ∧ g ≠ 2) (hb : l.length + (flatP ps).length ≤ 1099511627776) (hps : ps.length ≤ 1099511627776) (hFT : ∀ b ∈ (stR g v0 l).fp, b ≠ 1 ∧ b ≠ 2) :
    Gives Tryd.prog 47 #[.pointer (some ⟨g, 0, none⟩), .slice A ps.length c] w fun u w1 => u = .pointer (some ⟨g, 0, none⟩) ∧ ∃ v1, Turn w w1 (stR g v0 l) (stR g v1 (l ++ flatP ps)) := by
  have M0 := (Mem.begin h).openS
  have hws := (stW_ok l).1
  refine Gives.enter (n := 55) Tryd.func47 rfl Tryd.ntmps47 rfl (env := [(0, .pointer (some ⟨g, 0, none⟩)), (1, .slice A ps.length c)]) rfl ?_
  refine WC.seq ?_
  refine WC.region ?_
  refine WL.ex rfl rfl rfl (Ex.asg rfl) ?_
  refine WL.nil ?_
  refine WX.next (?_)
  refine WC.seq ?_
  refine WC.seq ?_
  refine WC.region ?_
  refine WL.ex rfl rfl rfl (Ex.mv rfl) ?_
  refine WL.ex rfl rfl rfl (Ex.len Tryd.underlying82 rfl) ?_
  refine WL.ex rfl rfl rfl (Ex.mv rfl) ?_
  refine WL.nil ?_
  refine WX.next (?_)
  refine WC.block ?_
  refine WC.loop (σ := Nat × Value) (fun s => [(0, .pointer (some ⟨g, 0, none⟩)), (7, .slice A ps.length c), (8, .int .i64 (ps.length : Int)), (9, .int .i64 (s.1 : Int))]) (fun s wr => s.1 ≤ ps.length ∧ Mem w wr (· ∈ (stR g v0 l).fp) [blk g (stC (stW l) s.2 (l.length + (flatP (ps.take s.1)).length)) 106, mrw s.2 5 (bytesV (stB l ++ flatP (ps.take s.1)))]) (fun s => ps.length - s.1) (((0, v0) : Nat × Value)) ?_ (.cons rfl (.cons rfl (.cons rfl (.cons rfl (.nil))))) ?_
  · refine ⟨by dsimp only; omega, ?_⟩
    simpa [flatP] using M0
  rintro ⟨i, v⟩ w5 ⟨hi, M5⟩
  dsimp only at hi M5
  refine WC.sub (env' := [(0, .pointer (some ⟨g, 0, none⟩)), (7, .slice A ps.length c), (8, .int .i64 (ps.length : Int)), (9, .int .i64 (i : Int))]) (.cons rfl (.cons rfl (.cons rfl (.cons rfl (.nil))))) ?_
  refine WC.seq ?_
  refine WC.region ?_
  refine WL.ex rfl rfl rfl (Ex.lss rfl rfl) ?_
  refine WL.nil ?_
  refine WX.next (?_)
  refine WC.seq ?_
  refine WC.cond_dec rfl (fun hin => ?_) (fun hin => ?_)
  · obtain ⟨p, hpi⟩ : ∃ p, ps[i]? = some p := ⟨_, List.getElem?_eq_getElem (by omega)⟩
    have hpm : p ∈ ps := List.mem_of_getElem? hpi
    have hsn := flatP_snoc hpi
    have hle := flatP_take_le ps (i + 1)
    rw [hsn, List.length_append] at hle
    obtain ⟨b0, o0, hA, _⟩ := hr.rd.1.plain (by simp; omega)
    subst hA
    have hbl := stB_length l
    refine WC.skip ?_
    refine WX.next (?_)
    refine WC.seq ?_
    refine WC.block ?_
    refine WC.seq ?_
    refine WC.region ?_
    refine WL.ex rfl rfl rfl (Ex.ia Tryd.underlying82 sz79 rfl rfl ⟨by omega, by omega⟩) ?_
    refine WL.ex rfl rfl rfl (Ex.load ty79 rfl (Rd.at1 (u := svV p) (hr.row M5.keep) (j := (i : Int).toNat * 1) (by simp [hpi]))) ?_
    refine WL.ex rfl rfl rfl (Ex.asg rfl) ?_
    refine WL.nil ?_
    refine WX.next (?_)
    refine WC.seq ?_
    refine WC.region ?_
    refine WL.ex rfl rfl rfl (Ex.mv rfl) ?_
    refine WL.ex rfl rfl rfl (Ex.nilc rfl) ?_
    refine WL.ex rfl rfl rfl (Ex.fa fl106_2 rfl) ?_
    refine WL.ex rfl rfl rfl (Ex.load ty23 rfl (M5.cell (i := 0) rfl (stC_9 hws _ _))) ?_
    refine WL.ex rfl rfl rfl (Ex.mv rfl) ?_
    refine WL.ex rfl rfl rfl (Ex.len Tryd.underlying79 rfl) ?_
    refine WL.ex rfl rfl rfl (Ex.cvI Tryd.underlying3 Tryd.underlying23 rfl (u64w_lt _ (by omega))) ?_
    refine WL.ex rfl rfl rfl (Ex.add rfl rfl (c := ((l.length + (flatP (ps.take i)).length + p.l.length : Nat) : Int)) (by rw [show ((l.length + (flatP (ps.take i)).length : Nat) : Int) + (p.l.length : Int) = ((l.length + (flatP (ps.take i)).length + p.l.length : Nat) : Int) by omega]; exact u64w_lt _ (by omega))) ?_
    refine WL.ex rfl rfl rfl (Ex.nilc rfl) ?_
    refine WL.ex rfl rfl rfl (Ex.fa fl106_2 rfl) ?_
    refine WL.ac0 rfl rfl (Ac.st M5 ty23 rfl rfl rfl (i := 0) rfl (by rw [stC_len hws]; decide)) ?_; rintro v20 w20 ⟨K20, M20⟩
    try dsimp only [List.set] at M20
    replace M20 := M20.eqv (i := 0) rfl (r' := blk g (stC (stW l) v (l.length + (flatP (ps.take i)).length + p.l.length)) 106) (congrArg (fun x => blk g x 106) (stC_s9 hws _ _ _))
    try dsimp only [List.set] at M20
    refine WL.nil ?_
    refine WX.next (?_)
    refine WC.region ?_
    refine WL.ex rfl rfl rfl (Ex.mv rfl) ?_
    refine WL.ex rfl rfl rfl (Ex.mv rfl) ?_
    refine WL.ex rfl rfl rfl (Ex.nilc rfl) ?_
    refine WL.ex rfl rfl rfl (Ex.fa fl106_1 rfl) ?_
    refine WL.ex rfl rfl rfl (Ex.load ty79 rfl (M20.cell (i := 0) rfl (stC_8 hws _ _))) ?_
    refine WL.ex rfl rfl rfl (Ex.mv rfl) ?_
    refine WL.ac rfl rfl rfl (Ac.appm M20 el79 rfl rfl (i := 1) rfl (by simp) (hr.part M20.keep hpm) (bytesV_one _) (by simp; omega) (by simp [maxLen]; omega)) ?_; rintro v27 w27 ⟨K27, M27⟩
    try dsimp only [List.set] at M27
    obtain ⟨v3, rfl⟩ : ∃ v3, v3 = v27 := ⟨_, rfl⟩
    rw [← bytesV_append, List.append_assoc, ← hsn] at M27
    refine WL.ex rfl rfl rfl (Ex.nilc rfl) ?_
    refine WL.ex rfl rfl rfl (Ex.fa fl106_1 rfl) ?_
    refine WL.ac0 rfl rfl (Ac.st M27 ty79 rfl rfl (by obtain ⟨_, _, hv⟩ := mrw_len (M27.get (i := 1) rfl); rw [hv]; rfl) (i := 0) rfl (by rw [stC_len hws]; decide)) ?_; rintro v30 w30 ⟨K30, M30⟩
    try dsimp only [List.set] at M30
    replace M30 := M30.eqv (i := 0) rfl (r' := blk g _ 106) (congrArg (fun x => blk g x 106) (stC_s8 hws _ _ _))
    try dsimp only [List.set] at M30
    rw [Nat.add_assoc, ← List.length_append, ← hsn] at M30
    refine WL.nil ?_
    refine WX.normal_block (WX.next (?_))
    refine WC.region ?_
    refine WL.ex rfl rfl rfl (Ex.add rfl rfl (i64w _ (by omega) (by omega))) ?_
    refine WL.ex rfl rfl rfl (Ex.mv rfl) ?_
    refine WL.nil ?_
    refine WX.again (((i + 1, v3) : Nat × Value)) ?_ ?_ (.cons rfl (.cons rfl (.cons rfl (.cons rfl (.nil)))))
    · (try dsimp only); omega
    · exact ⟨by dsimp only; omega, M30⟩
  · obtain rfl : i = ps.length := by omega
    rw [List.take_length] at M5
    refine WC.exit ?_
    refine WX.exit_then (WX.exit_then (WX.exit_block (WX.next (?_))))
    refine WC.seq ?_
    refine WC.block ?_
    obtain ⟨R, hR⟩ : ∃ R, R = stB l ++ flatP ps := ⟨_, rfl⟩
    rw [← hR] at M5
    have hRl : R.length = l.length % 64 + (flatP ps).length := by rw [hR, List.length_append, stB_length]
    refine WC.loop (σ := Nat × Value) (fun s => [(0, .pointer (some ⟨g, 0, none⟩))]) (fun s wr => 64 * s.1 ≤ R.length ∧ Mem w wr (· ∈ (stR g v0 l).fp) [blk g (stC (comps s.1 (stW l) R) s.2 (l.length + (flatP ps).length)) 106, mrw s.2 5 (bytesV (R.drop (64 * s.1)))]) (fun s => R.length - 64 * s.1) (((0, v) : Nat × Value)) ?_ (.cons rfl (.nil)) ?_
    · refine ⟨by dsimp only; omega, ?_⟩
      simpa [comps] using M5
    rintro ⟨k, v⟩ w33 ⟨hk, M33⟩
    dsimp only at hk M33
    refine WC.sub (env' := [(0, .pointer (some ⟨g, 0, none⟩))]) (.cons rfl (.nil)) ?_
    refine WC.seq ?_
    refine WC.seq ?_
    refine WC.region ?_
    refine WL.ex rfl rfl rfl (Ex.mv rfl) ?_
    refine WL.ex rfl rfl rfl (Ex.nilc rfl) ?_
    refine WL.ex rfl rfl rfl (Ex.fa fl106_1 rfl) ?_
    have hwk := comps_ok k (stW_ok l) R
    obtain ⟨A2, c2, hv2⟩ := mrw_len (M33.get (i := 1) rfl)
    subst hv2
    refine WL.ex rfl rfl rfl (Ex.load ty79 rfl (M33.cell (i := 0) rfl (stC_8 hwk.1 _ _))) ?_
    refine WL.ex rfl rfl rfl (Ex.len Tryd.underlying79 rfl) ?_
    refine WL.ex rfl rfl rfl (Ex.geq rfl rfl) ?_
    refine WL.nil ?_
    refine WX.next (?_)
    refine WC.cond_dec rfl (fun h64 => ?_) (fun h64 => ?_)
    · have h64b : 64 * k + 64 ≤ R.length := by simp at h64; omega
      have hc2 := mrw_cap (M33.get (i := 1) rfl)
      simp only [bytesV_length, List.length_drop] at hc2
      have hrd := mrw_rd (M33.get (i := 1) rfl)
      have hne := M33.apart (i := 0) (j := 1) rfl rfl (by decide) g (by simp [blk])
      refine WC.skip ?_
      refine WX.next (?_)
      refine WC.block ?_
      refine WC.seq ?_
      refine WC.region ?_
      refine WL.ex rfl rfl rfl (Ex.mv rfl) ?_
      refine WL.ex rfl rfl rfl (Ex.mv rfl) ?_
      refine WL.ex rfl rfl rfl (Ex.nilc rfl) ?_
      refine WL.ex rfl rfl rfl (Ex.fa fl106_1 rfl) ?_
      refine WL.ex rfl rfl rfl (Ex.load ty79 rfl (M33.cell (i := 0) rfl (stC_8 hwk.1 _ _))) ?_
      refine WL.ex rfl rfl rfl (Ex.slh (A := A2) (c := c2) Tryd.underlying79 sz5 rfl rfl (by omega) (by omega)) ?_
      refine WL.ac rfl rfl rfl (Ac.call rfl Tryd.func57 nm57 rfl (stake_ok w33 g (comps k (stW l) R) _ A2 c2 ((R.drop (64 * k)).take 64) (M33.get (i := 0) rfl) hwk (by simp; omega) (by omega) (by have := hrd.take 64; simpa [bytesV] using this) (fun a ha hb => hne (by subst ha; simp [mrw, Value.ownBlock, hb])) (hT.keepF M33.keep hFT) hg)) ?_; rintro v46 w46 T46
      have M46 := M33.turned (i := 0) rfl T46
      try dsimp only [List.set] at M46
      replace M46 := M46.eqv (i := 0) rfl (r' := blk g (stC (comps (k + 1) (stW l) R) _ (l.length + (flatP ps).length)) 106) (by rw [comps_succ]; rfl)
      try dsimp only [List.set] at M46
      have hwk1 := comps_ok (k + 1) (stW_ok l) R
      refine WL.nil ?_
      refine WX.next (?_)
      refine WC.region ?_
      refine WL.ex rfl rfl rfl (Ex.mv rfl) ?_
      refine WL.ex rfl rfl rfl (Ex.mv rfl) ?_
      refine WL.ex rfl rfl rfl (Ex.nilc rfl) ?_
      refine WL.ex rfl rfl rfl (Ex.fa fl106_1 rfl) ?_
      refine WL.ex rfl rfl rfl (Ex.load ty79 rfl (M46.cell (i := 0) rfl (stC_8 hwk1.1 _ _))) ?_
      refine WL.ex rfl rfl rfl (Ex.sll (A := A2) (c := c2) Tryd.underlying79 sz5 rfl rfl (by decide) (by simp; omega)) ?_
      obtain ⟨v4, hv4⟩ : ∃ v4, v4 = Value.slice (if c2 = (64 : Int).toNat then A2 else A2.map (·.add ((64 : Int).toNat * 1))) ((bytesV (R.drop (64 * k))).length - (64 : Int).toNat) (c2 - (64 : Int).toNat) := ⟨_, rfl⟩
      rw [← hv4]
      refine WL.ex rfl rfl rfl (Ex.nilc rfl) ?_
      refine WL.ex rfl rfl rfl (Ex.fa fl106_1 rfl) ?_
      refine WL.ac0 rfl rfl (Ac.st M46 ty79 rfl rfl (by rw [hv4]; rfl) (i := 0) rfl (by rw [stC_len hwk1.1]; decide)) ?_; rintro v55 w55 ⟨K55, M55⟩
      try dsimp only [List.set] at M55
      replace M55 := M55.eqv (i := 0) rfl (r' := blk g (stC (comps (k + 1) (stW l) R) v4 (l.length + (flatP ps).length)) 106) (congrArg (fun x => blk g x 106) (stC_s8 hwk1.1 _ _ _))
      try dsimp only [List.set] at M55
      replace M55 := M55.view (i := 1) rfl (r' := mrw v4 5 (bytesV (R.drop (64 * (k + 1))))) (fun h => mrw_mv (mrw_drop h (k := 64) (by simp; omega)) hv4.symm (by simp [bytesV, Nat.mul_add])) (fun b hb => by rw [hv4] at hb; exact mrw_drop_fp hb)
      try dsimp only [List.set] at M55
      refine WL.nil ?_
      refine WX.normal_block (?_)
      refine WX.again (((k + 1, v4) : Nat × Value)) ?_ ?_ (.cons rfl (.nil))
      · (try dsimp only); omega
      · exact ⟨by dsimp only; omega, M55⟩
    · have h64b : R.length < 64 * k + 64 := by simp at h64; omega
      obtain rfl : k = R.length / 64 := by omega
      refine WC.exit ?_
      refine WX.exit_then (WX.exit_then (WX.exit_block (WX.next (?_))))
      refine WC.seq ?_
      refine WC.region ?_
      refine WL.ex rfl rfl rfl (Ex.mv rfl) ?_
      refine WL.ex rfl rfl rfl (Ex.asg rfl) ?_
      refine WL.nil ?_
      refine WX.next (?_)
      refine WC.ret ?_
      refine WX.ret1 rfl rfl ?_
      have hsm := st_more l (flatP ps)
      rw [← hR] at hsm
      rw [← hsm.1, ← hsm.2, ← List.length_append] at M33
      exact ⟨rfl, _, (M33.closeS).toTurn⟩

end Go.Proofs.YtfgikoilgmddhaaDoor
