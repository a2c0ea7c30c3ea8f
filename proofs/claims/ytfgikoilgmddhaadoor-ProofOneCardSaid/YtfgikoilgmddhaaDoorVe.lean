/- Walks, written by gen.py off the translation's own print: each says what the Go function comes to. -/
import Derived.Test.YtfgikoilgmddhaaDoorVd
set_option linter.unusedVariables false
set_option linter.unusedSimpArgs false
namespace Go.Proofs.YtfgikoilgmddhaaDoor
open Go.Sx Go.RowKit
attribute [local irreducible] Ac Ex WL WC WX WP Gives sha

theorem wrapU (z : Int) : ∃ m : Nat, IntKind.u64.wrap z = (m : Int) ∧ m < 18446744073709551616 := by
  refine ⟨(z % 18446744073709551616).toNat, ?_, by omega⟩
  rw [IntKind.wrap_u64]
  omega
theorem places_div {d : Nat} {k p : Nat} (h : k ≤ d) : p / 2 ^ (d - k) = 0 ↔ p < places d (k : Int) := by
  have e : places d (k : Int) = 2 ^ (d - k) := by
    unfold places
    rw [if_pos (by omega)]
    simp
  rw [e]
  constructor
  · intro h0
    exact Nat.lt_of_not_le fun hle => by have := Nat.div_pos hle (Nat.pow_pos (show 0 < 2 by decide)); omega
  · exact Nat.div_eq_of_lt
theorem tNode_iff {d : Nat} {ls : Hs} {n : Nat} {z : Int} {p : Nat} : (n ≤ ls.length ∧ 0 ≤ z ∧ z ≤ (d : Int) ∧ p / 2 ^ (d - z.toNat) = 0) ↔ ¬ (ls.length < n ∨ places d z ≤ p) := by
  constructor
  · rintro ⟨h1, h2, h3, h4⟩ hor
    obtain ⟨k, rfl⟩ := Int.eq_ofNat_of_zero_le h2
    have := (places_div (d := d) (k := k) (p := p) (by omega)).1 (by simpa using h4)
    omega
  · intro h
    by_cases hz : 0 ≤ z ∧ z ≤ (d : Int)
    · obtain ⟨k, rfl⟩ := Int.eq_ofNat_of_zero_le hz.1
      refine ⟨by omega, hz.1, hz.2, ?_⟩
      have := (places_div (d := d) (k := k) (p := p) (by omega)).2 (by omega)
      simpa using this
    · exfalso
      have : places d z = 0 := if_neg hz
      omega

/- sponsion/sponsionlaw10.TreeNodes -/
theorem treeNodes_walk (w : World) (z0 : Int) (A : Option Addr) (c : Nat) (acts : List Act) (n : Nat) (z : Int) (p : Nat) (hr : Rd w A (acts.flatMap actC)) (hok : ∀ a ∈ acts, ActOk a) (hn : n < 18446744073709551616) (hz : -9223372036854775808 ≤ z ∧ z ≤ 9223372036854775807) (hp : p < 18446744073709551616) (hT : Tabs w) (hR : TabR w) :
    Gives Tryd.prog 5 #[.int .i64 z0, .slice A acts.length c, .int .u64 (n : Int), .int .i64 z, .int .u64 (p : Int)] w fun u w1 => u = .bool true ∧ Keep nof w w1 := by
  have M0 := Mem.start w nof
  obtain ⟨m, hm, hm64⟩ := wrapU z0
  obtain ⟨d, hdm⟩ : ∃ d, d = m % 33 := ⟨_, rfl⟩
  have hd : d ≤ 32 := by omega
  have hp2 := pow32 hd
  refine Gives.enter (n := 77) Tryd.func5 rfl Tryd.ntmps5 rfl (env := [(0, .int .i64 z0), (1, .slice A acts.length c), (2, .int .u64 (n : Int)), (3, .int .i64 z), (4, .int .u64 (p : Int))]) rfl ?_
  refine WC.seq ?_
  refine WC.region ?_
  refine WL.ex rfl rfl rfl (Ex.asg rfl) ?_
  refine WL.nil ?_
  refine WX.next (?_)
  refine WC.seq ?_
  refine WC.seq ?_
  refine WC.region ?_
  refine WL.ac rfl rfl rfl (Ac.call rfl Tryd.func11 nm11 rfl (lives10_ok w (hT.keep M0.keep))) ?_; rintro v2 w2 ⟨rfl, K2⟩
  have M2 := M0.step K2
  refine WL.ex rfl rfl rfl (Ex.not rfl) ?_
  refine WL.ex rfl rfl rfl (Ex.mv rfl) ?_
  refine WL.yes rfl rfl rfl rfl ?_
  refine WL.ex rfl rfl rfl (Ex.mv rfl) ?_
  refine WL.yes rfl rfl rfl rfl ?_
  refine WL.ex rfl rfl rfl (Ex.len Tryd.underlying44 rfl) ?_
  refine WL.yes rfl rfl rfl rfl ?_
  refine WL.ex rfl rfl rfl (Ex.gtr rfl rfl) ?_
  refine WL.ex rfl rfl rfl (Ex.pickF rfl rfl) ?_
  refine WL.nil ?_
  refine WX.next (?_)
  refine WC.cond_dec rfl (fun hc22 => ?_) (fun hc22 => ?_)
  · skip
    refine WC.seq ?_
    refine WC.region ?_
    refine WL.ac rfl rfl rfl (Ac.call rfl Tryd.func11 nm11 rfl (lives10_ok w2 (hT.keep M2.keep))) ?_; rintro v9 w9 ⟨rfl, K9⟩
    have M9 := M2.step K9
    refine WL.ex rfl rfl rfl (Ex.asg rfl) ?_
    refine WL.nil ?_
    refine WX.next (?_)
    refine WC.ret ?_
    refine WX.ret_then (?_)
    refine WX.ret1 rfl rfl ?_
    exact ⟨rfl, M9.keep⟩
  · have hn40 : acts.length ≤ 40 := by omega
    refine WC.skip ?_
    refine WX.next (?_)
    refine WC.seq ?_
    refine WC.region ?_
    refine WL.ex rfl rfl rfl (Ex.mv rfl) ?_
    refine WL.ex rfl rfl rfl (Ex.cvI (c := (m : Int)) Tryd.underlying3 Tryd.underlying45 rfl hm) ?_
    refine WL.ex rfl rfl rfl (Ex.rem rfl rfl (by decide) (c := ((d : Nat) : Int)) (by rw [hdm]; exact tmodT _ 33)) ?_
    refine WL.ex rfl rfl rfl (Ex.cvI Tryd.underlying45 Tryd.underlying3 rfl (i64w _ (by omega) (by omega))) ?_
    refine WL.ex rfl rfl rfl (Ex.asg rfl) ?_
    refine WL.nil ?_
    refine WX.next (?_)
    refine WC.seq ?_
    refine WC.region ?_
    refine WL.ex rfl rfl rfl (Ex.mv rfl) ?_
    refine WL.ac rfl rfl rfl (Ac.call rfl Tryd.func12 nm12 rfl (tNew_ok w2 d hd (hT.keep M2.keep))) ?_; rintro v17 w17 ⟨g, gl, ge, rfl, N17⟩
    have M17 := (M2.new N17).openS
    refine WL.ex rfl rfl rfl (Ex.mv rfl) ?_
    refine WL.ex rfl rfl rfl (Ex.mv rfl) ?_
    refine WL.ac rfl rfl rfl (Ac.call rfl Tryd.func22 nm22 rfl (play_ok w17 g gl ge d (nilS (d + 1)) A c acts (M17.get (i := 1) rfl) (ES.of (M17.get (i := 0) rfl)) (M17.apart (i := 0) (j := 1) rfl rfl (by decide) ge (by simp [blk])) (M17.rd hr) hok (acts_far M17 1 rfl hr hok) hn40 hd (hT.keep M17.keep) (M17.tabF hT 1 rfl))) ?_; rintro v20 w20 ⟨g1, gl1, vs1, A1, c1, ls, rfl, hls, hl40, hlc, T20⟩
    have Mt : Mem w w20 nof [sep (treeR g1 gl1 ge d vs1 (lvOf dNode e0 d ls)) (row (.slice A1 ls.length c1) 28 32 ls.length (fl ls)), blk ge (fl (emps dNode e0 (d + 1))) 28] := (M17.turned (i := 1) rfl T20).pick [1, 0] (by decide) rfl
    have M20 := Mt.openS
    have hlz := lvOf_get (N := dNode) (e := e0) (d := d) (ls := ls) (j := 0) (by omega)
    rw [levOf_zero] at hlz
    have h32t := tNode_32 (d := d) hls n z p
    have hiff := tNode_iff (d := d) (ls := ls) (n := n) (z := z) (p := p)
    refine WL.ex rfl rfl rfl (Ex.mv rfl) ?_
    refine WL.ex rfl rfl rfl (Ex.ext rfl rfl) ?_
    refine WL.ex rfl rfl rfl (Ex.ext rfl rfl) ?_
    refine WL.ex rfl rfl rfl (Ex.ext rfl rfl) ?_
    refine WL.ex rfl rfl rfl (Ex.asg rfl) ?_
    refine WL.ex rfl rfl rfl (Ex.asg rfl) ?_
    refine WL.ex rfl rfl rfl (Ex.asg rfl) ?_
    refine WL.nil ?_
    refine WX.next (?_)
    refine WC.seq ?_
    refine WC.seq ?_
    refine WC.region ?_
    refine WL.ex rfl rfl rfl (Ex.mv rfl) ?_
    refine WL.ex rfl rfl rfl (Ex.not rfl) ?_
    refine WL.nil ?_
    refine WX.next (?_)
    
    refine WC.no rfl ?_
    refine WC.skip ?_
    refine WX.next (?_)
    refine WC.seq ?_
    refine WC.region ?_
    refine WL.ex rfl rfl rfl (Ex.mv rfl) ?_
    refine WL.ex rfl rfl rfl (Ex.mv rfl) ?_
    refine WL.ex rfl rfl rfl (Ex.mv rfl) ?_
    refine WL.ex rfl rfl rfl (Ex.mv rfl) ?_
    refine WL.ac rfl rfl rfl (Ac.call rfl Tryd.func23 nm23 rfl (tNode_ok w20 g1 gl1 ge d vs1 ls n z p (TreeS.of (M20.get (i := 0) rfl) (lvOf_len _ _)) (ES.of (M20.get (i := 2) rfl)) hls hn hz hp hd (hT.keep M20.keep))) ?_; rintro v34 w34 ⟨rfl, K34⟩
    have M34 := M20.step K34
    refine WL.ex rfl rfl rfl (Ex.mv rfl) ?_
    refine WL.ex rfl rfl rfl (Ex.ext rfl rfl) ?_
    refine WL.ex rfl rfl rfl (Ex.ext rfl rfl) ?_
    refine WL.ac rfl rfl rfl (Ac.alloc M34 (l := bytesV (List.replicate 32 0)) (by kernel_rfl)) ?_; rintro v38 w38 ⟨gx, rfl, hg38, K38, M38⟩
    refine WL.ac0 rfl rfl (Ac.stA M38 ty28 rfl rfl rfl (h32_len (by first | assumption | exact h32_0)) (bytesV_one _) (i := 0) rfl (by first | (rw [h32_len (by first | assumption | exact h32_0), h32_len (by first | assumption | exact h32_0)]; decide) | (rw [h32_len (by first | assumption | exact h32_0)]; decide) | rw [h32_len (by first | assumption | exact h32_0)])) ?_; rintro v39 w39 ⟨K39, M39⟩
    try dsimp only [List.set] at M39
    rw [splice_all _ _ (by first | rw [h32_len (by first | assumption | exact h32_0), h32_len (by first | assumption | exact h32_0)] | rw [h32_len (by first | assumption | exact h32_0)])] at M39
    refine WL.ex rfl rfl rfl (Ex.asg rfl) ?_
    refine WL.nil ?_
    refine WX.next (?_)
    refine WC.seq ?_
    refine WC.seq ?_
    refine WC.region ?_
    refine WL.ex rfl rfl rfl (Ex.mv rfl) ?_
    refine WL.ex rfl rfl rfl (Ex.mv rfl) ?_
    refine WL.ex rfl rfl rfl (Ex.len Tryd.underlying22 rfl) ?_
    refine WL.ex rfl rfl rfl (Ex.cvI Tryd.underlying3 Tryd.underlying23 rfl (u64w_lt _ (by omega))) ?_
    refine WL.ex rfl rfl rfl (Ex.gtr rfl rfl) ?_
    refine WL.ex rfl rfl rfl (Ex.mv rfl) ?_
    by_cases hgt : (ls.length : Int) < (n : Int)
    · rw [decide_eq_true hgt]
      have hno : tNode d ls n z p = (List.replicate 32 0, false) := tNode_no (fun h => hiff.1 h (.inl (by omega)))
      rw [hno] at M39 ⊢
      refine WL.no rfl rfl rfl rfl rfl rfl ?_
      refine WL.no rfl rfl rfl rfl rfl rfl ?_
      refine WL.no rfl rfl rfl rfl rfl rfl ?_
      refine WL.no rfl rfl rfl rfl rfl rfl ?_
      refine WL.no rfl rfl rfl rfl rfl rfl ?_
      refine WL.ex rfl rfl rfl (Ex.pickT rfl rfl) ?_
      refine WL.nil ?_
      refine WX.next (?_)
      refine WC.yes rfl ?_
      refine WC.seq ?_
      refine WC.region ?_
      refine WL.ex rfl rfl rfl (Ex.mv rfl) ?_
      refine WL.ex rfl rfl rfl (Ex.not rfl) ?_
      refine WL.ex rfl rfl rfl (Ex.mv rfl) ?_
      
      refine WL.yes rfl rfl rfl rfl ?_
      refine WL.ex rfl rfl rfl (Ex.loadA ty28 rfl (h32_len (by first | assumption | exact h32_0)) (M39.rdw (i := 0) rfl)) ?_
      refine WL.yes rfl rfl rfl rfl ?_
      refine WL.ex rfl rfl rfl (Ex.bld bd28 (parts := []) (l := bytesV (List.replicate 32 0)) rfl rfl rfl rfl) ?_
      refine WL.yes rfl rfl rfl rfl ?_
      refine WL.ex rfl rfl rfl (Ex.eqA rfl rfl (eqHash w h32_0 h32_0)) ?_
      rw [decide_eq_true rfl]
      refine WL.ex rfl rfl rfl (Ex.pickT rfl rfl) ?_
      refine WL.ex rfl rfl rfl (Ex.asg rfl) ?_
      refine WL.nil ?_
      refine WX.next (?_)
      refine WC.ret ?_
      refine WX.ret_then (?_)
      refine WX.ret1 rfl rfl ?_
      exact ⟨rfl, M39.keep⟩
    · rw [decide_eq_false hgt]
      refine WL.yes rfl rfl rfl rfl ?_
      refine WL.ex rfl rfl rfl (Ex.mv rfl) ?_
      refine WL.yes rfl rfl rfl rfl ?_
      refine WL.ex rfl rfl rfl (Ex.mv rfl) ?_
      refine WL.yes rfl rfl rfl rfl ?_
      refine WL.ex rfl rfl rfl (Ex.mv rfl) ?_
      refine WL.yes rfl rfl rfl rfl ?_
      refine WL.ac rfl rfl rfl (Ac.call rfl Tryd.func24 nm24 rfl (places_ok w39 d z hd hz)) ?_; rintro v59 w59 ⟨rfl, K59⟩
      have M59 := M39.step K59
      refine WL.yes rfl rfl rfl rfl ?_
      refine WL.ex rfl rfl rfl (Ex.geq rfl rfl) ?_
      refine WL.ex rfl rfl rfl (Ex.pickF rfl rfl) ?_
      refine WL.nil ?_
      refine WX.next (?_)
      refine WC.cond_dec rfl (fun h58 => ?_) (fun h58 => ?_)
      · have hno : tNode d ls n z p = (List.replicate 32 0, false) := tNode_no (fun h => hiff.1 h (.inr (by omega)))
        rw [hno] at M59 ⊢
        refine WC.seq ?_
        refine WC.region ?_
        refine WL.ex rfl rfl rfl (Ex.mv rfl) ?_
        refine WL.ex rfl rfl rfl (Ex.not rfl) ?_
        refine WL.ex rfl rfl rfl (Ex.mv rfl) ?_
        
        refine WL.yes rfl rfl rfl rfl ?_
        refine WL.ex rfl rfl rfl (Ex.loadA ty28 rfl (h32_len (by first | assumption | exact h32_0)) (M59.rdw (i := 0) rfl)) ?_
        refine WL.yes rfl rfl rfl rfl ?_
        refine WL.ex rfl rfl rfl (Ex.bld bd28 (parts := []) (l := bytesV (List.replicate 32 0)) rfl rfl rfl rfl) ?_
        refine WL.yes rfl rfl rfl rfl ?_
        refine WL.ex rfl rfl rfl (Ex.eqA rfl rfl (eqHash w h32_0 h32_0)) ?_
        rw [decide_eq_true rfl]
        refine WL.ex rfl rfl rfl (Ex.pickT rfl rfl) ?_
        refine WL.ex rfl rfl rfl (Ex.asg rfl) ?_
        refine WL.nil ?_
        refine WX.next (?_)
        refine WC.ret ?_
        refine WX.ret_then (?_)
        refine WX.ret1 rfl rfl ?_
        exact ⟨rfl, M59.keep⟩
      · have hall := hiff.2 (by omega)
        obtain ⟨k, rfl⟩ := Int.eq_ofNat_of_zero_le hall.2.1
        have hkd : k ≤ d := by omega
        have hyes := tNode_yes (a := nd dNode e0 (ls.take n) k p) hall.1 hkd (by simpa using hall.2.2.2) rfl
        rw [hyes] at M59 ⊢
        have hn32 := nd32 (take32 hls n) k p
        have hlt := (places_div (p := p) hkd).1 (by simpa using hall.2.2.2)
        have hpw : (p + 1) * 2 ^ k ≤ 4294967296 := by
          have e : places d (k : Int) = 2 ^ (d - k) := by
            unfold places
            rw [if_pos (by omega)]
            simp
          rw [e] at hlt
          have h1 : (p + 1) * 2 ^ k ≤ 2 ^ (d - k) * 2 ^ k := Nat.mul_le_mul_right _ hlt
          rw [← Nat.pow_add, Nat.sub_add_cancel hkd] at h1
          omega
        have htl : (ls.take n).length = n := by rw [List.length_take]; omega
        refine WC.skip ?_
        refine WX.next (?_)
        refine WC.seq ?_
        refine WC.draw (Keep nof w59.drew) [] (.one 0 0 (.one 1 0 (.one 3 0 (.one 4 0 (.one 5 0 (.one 6 0 (.one 7 0 (.one 2 1 (.one 8 2 (.one 9 0 (.one 10 0 (.one 11 0 .nil)))))))))))) mixed (by kernel_rfl) (by kernel_rfl) (by kernel_rfl) (HQ.then_ HQ.body) ?_
        obtain ⟨w70, hw70⟩ : ∃ v, v = w59.drew := ⟨_, rfl⟩
        have D70 : Keep nof w59 w70 := by rw [hw70]; exact Keep.drew _ _
        have M70 := M59.step D70
        rw [← hw70]; clear hw70
        refine WP.p rfl rfl rfl rfl (fun _ => Ex.mv rfl) ?_
        refine WP.p rfl rfl rfl rfl (fun _ => Ex.mv rfl) ?_
        
        refine WP.py rfl rfl rfl rfl rfl rfl (fun _ => Ex.mv rfl) ?_
        refine WP.py rfl rfl rfl rfl rfl rfl (fun _ => Ex.mv rfl) ?_
        refine WP.py rfl rfl rfl rfl rfl rfl (fun _ => Ex.slh Tryd.underlying22 sz28 rfl rfl (Int.natCast_nonneg _) (by omega)) ?_
        rw [Int.toNat_natCast]
        refine WP.py rfl rfl rfl rfl rfl rfl (fun _ => Ex.mv rfl) ?_
        refine WP.py rfl rfl rfl rfl rfl rfl (fun _ => Ex.mv rfl) ?_
        refine WP.qy (Keep.refl _ _) rfl rfl rfl rfl rfl rfl (fun w' hS => Ex.loadA ty28 rfl (h32_len (by first | assumption | exact h32_0)) ((M70.rdw (i := 0) rfl).keep0 hS)) ?_
        refine WP.ays rfl rfl rfl rfl rfl rfl (Ac.call rfl Tryd.func25 nm25 rfl ((by
          have hx := rNode_ok w70 A1 c1 (ls.take n) k p (by rw [fl_take hls]; exact (M70.rdr (i := 2) rfl).take _) (take32 hls n) (by omega) (by omega) hpw (hR.keep0 M70.keep)
          rw [htl] at hx
          exact hx))) ?_; rintro v79 w79 ⟨rfl, K79⟩
        refine ⟨Keep nof w79, fun u h => K79.trans h, Keep.refl _ _, ?_⟩
        have M79 := M70.step K79
        refine WP.py rfl rfl rfl rfl rfl rfl (fun _ => Ex.eqA rfl rfl (eqHash w hn32 hn32)) ?_
        rw [decide_eq_true rfl]
        refine WP.p rfl rfl rfl rfl (fun _ => Ex.pickT rfl rfl) ?_
        refine WP.p rfl rfl rfl rfl (fun _ => Ex.asg rfl) ?_
        refine WP.nil ?_
        refine WX.next (?_)
        refine WC.ret ?_
        refine WX.ret1 rfl rfl ?_
        exact ⟨rfl, M79.keep⟩

end Go.Proofs.YtfgikoilgmddhaaDoor
