/- Walks, written by gen.py off the translation's own print: each says what the Go function comes to. -/
import Derived.Test.YtchmjpdkonfifaaDoorOf
import Derived.Test.YtchmjpdkonfifaaDoorFn
set_option linter.unusedVariables false
set_option linter.unusedSimpArgs false
namespace Go.Proofs.YtchmjpdkonfifaaDoor
open Go.Sx Go.RowKit
attribute [local irreducible] Ac Ex WL WC WX WP Gives sha

/-- The pair whose Node is the next sum. -/
def prB (P : Hs) (i : Nat) (a : List UInt8) (k : Nat) : List UInt8 × List UInt8 := if i / 2 ^ k % 2 = 1 then (P.getD k [], clB P i a k) else (clB P i a k, P.getD k [])
theorem clB_pr (P : Hs) (i : Nat) (a : List UInt8) (k : Nat) : clB P i a (k + 1) = dNode (prB P i a k).1 (prB P i a k).2 := by
  rw [clB, prB]
  rcases Nat.mod_two_eq_zero_or_one (i / 2 ^ k) with h | h <;> simp [h]
theorem prB_inj {P Q : Hs} {i k : Nat} {a b : List UInt8} (h : prB P i a k = prB Q i b k) : clB P i a k = clB Q i b k := by
  unfold prB at h
  split at h
  · exact (Prod.mk.inj h).2
  · exact (Prod.mk.inj h).1
def colAt (P Q : Hs) (i : Nat) (a b : List UInt8) (k : Nat) : Bool := decide (clB P i a (k + 1) = clB Q i b (k + 1)) && !decide (prB P i a k = prB Q i b k)
def colB (P Q : Hs) (i : Nat) (a b : List UInt8) (d : Nat) : Bool := (List.range d).any (colAt P Q i a b)
theorem colB_succ {P Q : Hs} {i : Nat} {a b : List UInt8} {d : Nat} : colB P Q i a b (d + 1) = (colB P Q i a b d || colAt P Q i a b d) := by
  rw [colB, List.range_succ, List.any_append]
  simp [colB]
theorem colB_hit {P Q : Hs} {i : Nat} {a b : List UInt8} {d k : Nat} (hk : k < d) (h : colAt P Q i a b k = true) : colB P Q i a b d = true := List.any_eq_true.2 ⟨k, List.mem_range.2 hk, h⟩
theorem col_of {P Q : Hs} {i : Nat} {a b : List UInt8} (hab : a ≠ b) : ∀ {d : Nat}, clB P i a d = clB Q i b d → colB P Q i a b d = true
  | 0, h => absurd h hab
  | d + 1, h => by
    rw [colB_succ]
    by_cases he : prB P i a d = prB Q i b d
    · rw [col_of hab (prB_inj he)]; rfl
    · rw [colAt, decide_eq_true h, decide_eq_false he]; simp

theorem mk_climb {ls : Hs} {d n i : Nat} {a : List UInt8} (hi : i < n) (hn : n ≤ ls.length) (ha : ls[i]? = some a) (hd : d ≤ 32) : ∀ k, k ≤ d → clB (mkP d ls n i) i a k = nd dNode e0 (ls.take n) k (i / 2 ^ k)
  | 0, _ => by
    show a = nd dNode e0 (ls.take n) 0 (i / 2 ^ 0)
    have h : (ls.take n)[i]? = some a := by rw [List.getElem?_take, if_pos hi]; exact ha
    simp [nd, List.getD, h]
  | k + 1, hk => by
    rw [clB, mk_climb hi hn ha hd k (by omega)]
    have hp : (mkP d ls n i).getD k [] = nd dNode e0 (ls.take n) k ((i / 2 ^ k) ^^^ 1) := by
      rw [mkP, fillTo, List.getD, List.getElem?_map, List.getElem?_range (by omega)]
      simp [show k < d by omega, pF]
    rw [hp, nd, Nat.pow_succ, ← Nat.div_div_eq_div_mul]
    generalize i / 2 ^ k = x
    rcases Nat.mod_two_eq_zero_or_one x with h | h
    · rw [if_pos h, xor1_even h]
      rw [show 2 * (x / 2) = x by omega]
    · rw [if_neg (by omega), xor1_odd h]
      rw [show 2 * (x / 2) + 1 = x by omega, show 2 * (x / 2) = x - 1 by omega]
theorem mk_check {ls : Hs} {d n i : Nat} {a : List UInt8} (hi : i < n) (hn : n ≤ ls.length) (hl : ls.length ≤ 2 ^ d) (ha : ls[i]? = some a) (hd : d ≤ 32) : checkR (d : Int) (nd dNode e0 (ls.take n) d 0) n i a (mkP d ls n i) = 0 := by
  have h0 : i / 2 ^ d = 0 := Nat.div_eq_of_lt (by omega)
  have hz : ∀ x ∈ (mkP d ls n i).drop d, x = zH := by
    intro x hx
    obtain ⟨j, hj⟩ := List.getElem?_of_mem hx
    rw [List.getElem?_drop, mkP, fillTo, List.getElem?_map] at hj
    have hjl : d + j < 32 := by
      rcases Nat.lt_or_ge (d + j) 32 with h | h
      · exact h
      · rw [List.getElem?_eq_none (by simpa using h)] at hj; cases hj
    rw [List.getElem?_range hjl, Option.map_some, if_neg (by omega)] at hj
    exact (Option.some.inj hj).symm
  have hc := climb_0 (a := a) (P := mkP d ls n i) hd h0 hz
  have hm := mk_climb hi hn ha hd d (Nat.le_refl _)
  rw [h0] at hm
  unfold checkR
  rw [hc, hm, if_neg (by simp), if_neg (by omega), if_neg (by simp)]
theorem check_col {ls : Hs} {d n i : Nat} {a b : List UInt8} (hi : i < n) (hn : n ≤ ls.length) (hl : ls.length ≤ 2 ^ d) (ha : ls[i]? = some a) (hd : d ≤ 32) (hab : b ≠ a) (hc : checkR (d : Int) (nd dNode e0 (ls.take n) d 0) n i b (mkP d ls n i) = 0) : colB (mkP d ls n i) (mkP d ls n i) i a b d = true := by
  apply col_of (fun h => hab h.symm)
  have hm := mk_climb hi hn ha hd d (Nat.le_refl _)
  have h0 : i / 2 ^ d = 0 := Nat.div_eq_of_lt (by omega)
  rw [h0] at hm
  rw [hm]
  unfold checkR at hc
  split at hc
  · next h => exact absurd hc h
  · next h =>
    rw [if_neg (by omega)] at hc
    split at hc
    · cases hc
    · next h2 =>
      have h3 : (climbR (d : Int) i b (mkP d ls n i)).1 = nd dNode e0 (ls.take n) d 0 := Decidable.byContradiction h2
      rw [← h3]
      have h4 : (climbR (d : Int) i b (mkP d ls n i)).2 = 0 := Decidable.byContradiction h
      unfold climbR at h4 ⊢
      rw [if_neg (by omega), if_neg (by simpa using h0)] at h4 ⊢
      split at h4
      · next h5 => rw [if_pos h5]; simp
      · cases h4

/- sponsion/sponsionlaw19.OutboxStays -/
theorem outboxStays_walk (w : World) (L : Option Addr) (d : Nat) (l : List Itt) (Mo : Option Addr) (d2 : Nat) (ms : List Itt) (n0 : Nat) (hr : Rd w L (l.flatMap ittC)) (hokl : ∀ t ∈ l, IttOk t) (hr2 : Rd w Mo (ms.flatMap ittC)) (hokm : ∀ t ∈ ms, IttOk t) (hn0 : n0 < 18446744073709551616) (hT : Tabs w) :
    Gives Tryd.prog 5 #[.slice L l.length d, .slice Mo ms.length d2, .int .u64 (n0 : Int)] w fun u w1 => u = .bool true ∧ Keep nof w w1 := by
  have M0 := Mem.start w nof
  refine Gives.enter (n := 143) Tryd.func5 rfl Tryd.ntmps5 rfl (env := [(0, .slice L l.length d), (1, .slice Mo ms.length d2), (2, .int .u64 (n0 : Int))]) rfl ?_
  refine WC.seq ?_
  refine WC.region ?_
  refine WL.ex rfl rfl rfl (Ex.asg rfl) ?_
  refine WL.nil ?_
  refine WX.next (?_)
  refine WC.seq ?_
  refine WC.seq ?_
  refine WC.region ?_
  refine WL.ac rfl rfl rfl (Ac.call rfl Tryd.func10 nm10 rfl (lives19_ok w (hT.keep M0.keep))) ?_; rintro v2 w2 ⟨rfl, K2⟩
  have M2 := M0.step K2
  refine WL.ex rfl rfl rfl (Ex.not rfl) ?_
  refine WL.ex rfl rfl rfl (Ex.mv rfl) ?_
  refine WL.yes rfl rfl rfl rfl ?_
  refine WL.ex rfl rfl rfl (Ex.mv rfl) ?_
  refine WL.yes rfl rfl rfl rfl ?_
  refine WL.ex rfl rfl rfl (Ex.len Tryd.underlying27 rfl) ?_
  refine WL.yes rfl rfl rfl rfl ?_
  refine WL.ex rfl rfl rfl (Ex.gtr rfl rfl) ?_
  refine WL.ex rfl rfl rfl (Ex.pickF rfl rfl) ?_
  refine WL.ex rfl rfl rfl (Ex.mv rfl) ?_
  by_cases hgt : (15 : Int) < l.length
  · rw [decide_eq_true hgt]
    refine WL.no rfl rfl rfl rfl rfl rfl ?_
    refine WL.no rfl rfl rfl rfl rfl rfl ?_
    refine WL.no rfl rfl rfl rfl rfl rfl ?_
    refine WL.ex rfl rfl rfl (Ex.pickT rfl rfl) ?_
    refine WL.nil ?_
    refine WX.next (?_)
    refine WC.yes rfl ?_
    refine WC.seq ?_
    refine WC.region ?_
    refine WL.ac rfl rfl rfl (Ac.call rfl Tryd.func10 nm10 rfl (lives19_ok w2 (hT.keep M2.keep))) ?_; rintro v11 w11 ⟨rfl, K11⟩
    have M11 := M2.step K11
    refine WL.ex rfl rfl rfl (Ex.asg rfl) ?_
    refine WL.nil ?_
    refine WX.next (?_)
    refine WC.ret ?_
    refine WX.ret_then (?_)
    refine WX.ret1 rfl rfl ?_
    exact ⟨rfl, M11.keep⟩
  · rw [decide_eq_false hgt]
    refine WL.yes rfl rfl rfl rfl ?_
    refine WL.ex rfl rfl rfl (Ex.mv rfl) ?_
    refine WL.yes rfl rfl rfl rfl ?_
    refine WL.ex rfl rfl rfl (Ex.len Tryd.underlying27 rfl) ?_
    refine WL.yes rfl rfl rfl rfl ?_
    refine WL.ex rfl rfl rfl (Ex.gtr rfl rfl) ?_
    refine WL.ex rfl rfl rfl (Ex.pickF rfl rfl) ?_
    refine WL.nil ?_
    refine WX.next (?_)
    refine WC.cond_dec rfl (fun hc34 => ?_) (fun hc34 => ?_)
    · skip
      refine WC.seq ?_
      refine WC.region ?_
      refine WL.ac rfl rfl rfl (Ac.call rfl Tryd.func10 nm10 rfl (lives19_ok w2 (hT.keep M2.keep))) ?_; rintro v17 w17 ⟨rfl, K17⟩
      have M17 := M2.step K17
      refine WL.ex rfl rfl rfl (Ex.asg rfl) ?_
      refine WL.nil ?_
      refine WX.next (?_)
      refine WC.ret ?_
      refine WX.ret_then (?_)
      refine WX.ret1 rfl rfl ?_
      exact ⟨rfl, M17.keep⟩
    · have hn : l.length ≤ 15 ∧ ms.length ≤ 15 := by omega
      refine WC.skip ?_
      refine WX.next (?_)
      refine WC.seq ?_
      refine WC.region ?_
      refine WL.ac rfl rfl rfl (Ac.call rfl Tryd.func11 nm11 rfl (oNew_ok w2 (hT.keep M2.keep))) ?_; rintro v19 w19 ⟨go, gt, gl, ge, rfl, N19⟩
      have M19 := (M2.new N19).openS
      refine WL.ac rfl rfl rfl (Ac.alloc M19 al25) ?_; rintro v20 w20 ⟨g7, rfl, hg20, K20, M20⟩
      refine WL.ac0 rfl rfl (Ac.st M20 ty25 rfl rfl rfl (i := 0) rfl (by simp)) ?_; rintro v21 w21 ⟨K21, M21⟩
      try dsimp only [List.set] at M21
      refine WL.nil ?_
      refine WX.next (?_)
      refine WC.seq ?_
      refine WC.region ?_
      refine WL.ex rfl rfl rfl (Ex.mkf (f' := []) (c' := [.pointer (some ⟨g7, 0, none⟩)]) rfl rfl) ?_
      refine WL.ex rfl rfl rfl (Ex.asg rfl) ?_
      refine WL.nil ?_
      refine WX.next (?_)
      refine WC.seq ?_
      refine WC.region ?_
      refine WL.ex rfl rfl rfl (Ex.mv rfl) ?_
      refine WL.ex rfl rfl rfl (Ex.mv rfl) ?_
      refine WL.ac rfl rfl rfl (Ac.callv rfl rfl ⟨_, _, [], [.pointer (some ⟨g7, 0, none⟩)], rfl, Tryd.func22, by kernel_rfl, rfl, adds_ok w21 go gt gl ge (nilS 33) none 0 [] g7 L d l (M21.get (i := 1) rfl) (M21.cell (i := 0) (v := .pointer (some ⟨go, 0, none⟩)) rfl rfl) (M21.apart (i := 0) (j := 1) rfl rfl (by decide) g7 (by simp [blk])) (M21.rd hr) hokl (fun hne => rd_far M21 1 rfl hr (ls_pos hokl hne)) (by simp) (by decide) (by omega) (hT.keep M21.keep) (M21.tabF hT 1 rfl)⟩) ?_; rintro v26 w26 ⟨vs1, A1, c1, hok1, hl1, T26⟩
      obtain ⟨its1, hi1⟩ : ∃ its1, its1 = addsL [] l := ⟨_, rfl⟩
      rw [← hi1] at hok1 hl1 T26
      rw [List.length_nil, Nat.zero_add] at hl1
      have M26 := M21.turned (i := 1) rfl T26
      try dsimp only [List.set] at M26
      refine WL.nil ?_
      refine WX.next (?_)
      refine WC.seq ?_
      refine WC.region ?_
      obtain ⟨n, hn1⟩ : ∃ n, n = n0 % (its1.length + 1) := ⟨_, rfl⟩
      have hnl : n ≤ its1.length := by
        have := Nat.mod_lt n0 (show 0 < its1.length + 1 by omega)
        omega
      have hroot : tNode 32 (lsO its1) n 32 0 = (nd dNode e0 ((lsO its1).take n) 32 0, true) := tNode_yes (k := 32) (by rw [lsO_len]; omega) (Nat.le_refl _) (by decide) rfl
      have htop : tNode 32 (lsO its1) its1.length 32 0 = (nd dNode e0 ((lsO its1).take its1.length) 32 0, true) := tNode_yes (k := 32) (by rw [lsO_len]; omega) (Nat.le_refl _) (by decide) rfl
      have hr32 := nd32 (take32 (lsO32 its1) n) 32 0
      have ht32 := nd32 (take32 (lsO32 its1) its1.length) 32 0
      obtain ⟨its2, hi2⟩ : ∃ its2, its2 = addsL its1 ms := ⟨_, rfl⟩
      obtain ⟨rr, hrr⟩ := adds_pre ms its1
      rw [← hi2] at hrr
      have htk : (lsO its2).take n = (lsO its1).take n := by rw [hrr, lsO_take, lsO_take, List.take_append_of_le_length hnl]
      have hlen2 : its1.length ≤ its2.length := by rw [hrr, List.length_append]; omega
      have hroot2 : tNode 32 (lsO its2) n 32 0 = (nd dNode e0 ((lsO its1).take n) 32 0, true) := tNode_yes (k := 32) (by rw [lsO_len]; omega) (Nat.le_refl _) (by decide) (by rw [htk])
      refine WL.ex rfl rfl rfl (Ex.mv rfl) ?_
      refine WL.ex rfl rfl rfl (Ex.load ty25 rfl (M26.cell (i := 0) rfl rfl)) ?_
      refine WL.ac rfl rfl rfl (Ac.call rfl Tryd.func25 nm25 rfl (oLen_ok w26 go gt gl ge vs1 A1 c1 its1 (OxS.of (M26.get (i := 1) rfl)) (by omega))) ?_; rintro v29 w29 ⟨rfl, K29⟩
      have M29 := M26.step K29
      refine WL.ex rfl rfl rfl (Ex.add rfl rfl (c := ((its1.length + 1 : Nat) : Int)) (by rw [show (its1.length : Int) + 1 = ((its1.length + 1 : Nat) : Int) by omega]; exact u64w_lt _ (by omega))) ?_
      refine WL.ex rfl rfl rfl (Ex.rem rfl rfl (by omega) (c := ((n : Nat) : Int)) (by rw [hn1]; exact tmodT _ _)) ?_
      refine WL.ex rfl rfl rfl (Ex.asg rfl) ?_
      refine WL.nil ?_
      refine WX.next (?_)
      refine WC.seq ?_
      refine WC.region ?_
      refine WL.ex rfl rfl rfl (Ex.load ty25 rfl (M29.cell (i := 0) rfl rfl)) ?_
      refine WL.ex rfl rfl rfl (Ex.mv rfl) ?_
      refine WL.ac rfl rfl rfl (Ac.call rfl Tryd.func13 nm13 rfl (oRoot_ok w29 go gt gl ge vs1 A1 c1 its1 n (OxS.of (M29.get (i := 1) rfl)) (ES.of (M29.get (i := 2) rfl)) (by omega) (hT.keep M29.keep))) ?_; rintro v35 w35 ⟨rfl, K35⟩
      rw [hroot]
      dsimp only
      have M35 := M29.step K35
      refine WL.ex rfl rfl rfl (Ex.mv rfl) ?_
      refine WL.ex rfl rfl rfl (Ex.ext rfl rfl) ?_
      refine WL.ex rfl rfl rfl (Ex.ext rfl rfl) ?_
      refine WL.ac rfl rfl rfl (Ac.alloc M35 (l := bytesV (List.replicate 32 0)) (by kernel_rfl)) ?_; rintro v39 w39 ⟨gA, rfl, hg39, K39, M39⟩
      refine WL.ac0 rfl rfl (Ac.stA M39 ty31 rfl rfl rfl (h32_len (by first | assumption | exact h32_0)) (bytesV_one _) (i := 0) rfl (by first | (rw [h32_len (by first | assumption | exact h32_0), h32_len (by first | assumption | exact h32_0)]; decide) | (rw [h32_len (by first | assumption | exact h32_0)]; decide) | rw [h32_len (by first | assumption | exact h32_0)])) ?_; rintro v40 w40 ⟨K40, M40⟩
      try dsimp only [List.set] at M40
      rw [splice_all _ _ (by first | rw [h32_len (by first | assumption | exact h32_0), h32_len (by first | assumption | exact h32_0)] | rw [h32_len (by first | assumption | exact h32_0)])] at M40
      refine WL.ex rfl rfl rfl (Ex.asg rfl) ?_
      refine WL.nil ?_
      refine WX.next (?_)
      refine WC.cut (σ := Nat) (fun gB => [(0, .slice L l.length d), (1, .slice Mo ms.length d2), (2, .int .u64 (n : Int)), (7, .pointer (some ⟨g7, 0, none⟩)), (8, .func (.func 22) #[] #[.pointer (some ⟨g7, 0, none⟩)]), (9, .pointer (some ⟨gA, 0, none⟩)), (10, .bool true), (11, .pointer (some ⟨gB, 0, none⟩)), (12, .bool true)]) (fun gB wr => Mem w wr nof [blk gB (bytesV (nd dNode e0 ((lsO its1).take its1.length) 32 0)) 31, blk gA (bytesV (nd dNode e0 ((lsO its1).take n) 32 0)) 31, blk g7 [.pointer (some ⟨go, 0, none⟩)] 25, oR go gt gl ge vs1 A1 c1 its1, blk ge (fl (emps dNode e0 (32 + 1))) 31]) ?_ ?_
      ·
        refine WC.draw (Keep nof w40.drew) [8] (.one 0 1 (.one 1 1 (.two 2 (.two 3 (.one 4 0 (.one 5 0 (.one 6 0 (.one 7 2 (.one 8 2 (.one 9 0 .nil)))))) 7 (.one 3 2 (.one 4 0 (.one 5 0 (.one 6 0 (.one 8 2 (.one 9 0 .nil))))))) 7 (.one 2 2 (.one 3 2 (.one 4 0 (.one 5 0 (.one 6 0 (.one 8 2 (.one 9 0 .nil)))))))))) mixed (by kernel_rfl) (by kernel_rfl) (by kernel_rfl) (HQ.then_ HQ.body) ?_
        obtain ⟨w42, hw42⟩ : ∃ v, v = w40.drew := ⟨_, rfl⟩
        have D42 : Keep nof w40 w42 := by rw [hw42]; exact Keep.drew _ _
        have M42 := M40.step D42
        rw [← hw42]; clear hw42
        refine WP.q (Keep.refl _ _) rfl rfl rfl rfl (fun w' hS => Ex.load ty25 rfl (hS.cell (M42.cell (i := 1) (v := .pointer (some ⟨go, 0, none⟩)) rfl rfl) (fun f => f))) ?_
        refine WP.q (Keep.refl _ _) rfl rfl rfl rfl (fun w' hS => Ex.load ty25 rfl (hS.cell (M42.cell (i := 1) (v := .pointer (some ⟨go, 0, none⟩)) rfl rfl) (fun f => f))) ?_
        refine WP.two ?_ ?_
        · skip
          refine WP.as rfl rfl rfl rfl (Ac.call rfl Tryd.func25 nm25 rfl (oLen_ok w42 go gt gl ge vs1 A1 c1 its1 (OxS.of (M42.get (i := 2) rfl)) (by omega))) ?_; rintro v45 w45 ⟨rfl, K45⟩
          refine ⟨Keep nof w45, fun u h => K45.trans h, Keep.refl _ _, ?_⟩
          have M45 := M42.step K45
          refine WP.two ?_ ?_
          · skip
            refine WP.as rfl rfl rfl rfl (Ac.call rfl Tryd.func13 nm13 rfl (oRoot_ok w45 go gt gl ge vs1 A1 c1 its1 its1.length (OxS.of (M45.get (i := 2) rfl)) (ES.of (M45.get (i := 3) rfl)) (by omega) (hT.keep M45.keep))) ?_; rintro v46 w46 ⟨rfl, K46⟩
            refine ⟨Keep nof w46, fun u h => K46.trans h, Keep.refl _ _, ?_⟩
            rw [htop]
            dsimp only
            have M46 := M45.step K46
            refine WP.p rfl rfl rfl rfl (fun _ => Ex.mv rfl) ?_
            refine WP.p rfl rfl rfl rfl (fun _ => Ex.ext rfl rfl) ?_
            refine WP.p rfl rfl rfl rfl (fun _ => Ex.ext rfl rfl) ?_
            refine WP.as rfl rfl rfl rfl (Ac.alloc M46 (l := bytesV (List.replicate 32 0)) (by kernel_rfl)) ?_; rintro v50 w50 ⟨gB, rfl, hg50, K50, M50⟩
            refine ⟨Keep nof w50, fun u h => K50.trans h, Keep.refl _ _, ?_⟩
            refine WP.a0 rfl rfl rfl (Ac.stA M50 ty31 rfl rfl rfl (h32_len (by first | assumption | exact h32_0)) (bytesV_one _) (i := 0) rfl (by first | (rw [h32_len (by first | assumption | exact h32_0), h32_len (by first | assumption | exact h32_0)]; decide) | (rw [h32_len (by first | assumption | exact h32_0)]; decide) | rw [h32_len (by first | assumption | exact h32_0)])) ?_; rintro v51 w51 ⟨K51, M51⟩; refine .inl ⟨rfl, Keep nof w51, ?_⟩
            try dsimp only [List.set] at M51
            rw [splice_all _ _ (by first | rw [h32_len (by first | assumption | exact h32_0), h32_len (by first | assumption | exact h32_0)] | rw [h32_len (by first | assumption | exact h32_0)])] at M51
            refine WP.p rfl rfl rfl rfl (fun _ => Ex.asg rfl) ?_
            refine WP.nil ?_
            refine WX.join (gB) ?_ (.cons rfl (.cons rfl (.cons rfl (.cons rfl (.cons rfl (.cons rfl (.cons rfl (.cons rfl (.cons rfl (.nil))))))))))
            exact (Mem.pick M51 [0, 1, 2, 3, 4] (by decide) rfl)
          · skip
            refine WP.as rfl rfl rfl rfl (Ac.alloc M45 (l := bytesV (List.replicate 32 0)) (by kernel_rfl)) ?_; rintro v53 w53 ⟨gB, rfl, hg53, K53, M53⟩
            refine ⟨Keep nof w53, fun u h => K53.trans h, Keep.refl _ _, ?_⟩
            refine WP.as rfl rfl rfl rfl (Ac.call rfl Tryd.func13 nm13 rfl (oRoot_ok w53 go gt gl ge vs1 A1 c1 its1 its1.length (OxS.of (M53.get (i := 3) rfl)) (ES.of (M53.get (i := 4) rfl)) (by omega) (hT.keep M53.keep))) ?_; rintro v54 w54 ⟨rfl, K54⟩
            refine ⟨Keep nof w54, fun u h => K54.trans h, Keep.refl _ _, ?_⟩
            rw [htop]
            dsimp only
            have M54 := M53.step K54
            refine WP.p rfl rfl rfl rfl (fun _ => Ex.mv rfl) ?_
            refine WP.p rfl rfl rfl rfl (fun _ => Ex.ext rfl rfl) ?_
            refine WP.p rfl rfl rfl rfl (fun _ => Ex.ext rfl rfl) ?_
            refine WP.a0 rfl rfl rfl (Ac.stA M54 ty31 rfl rfl rfl (h32_len (by first | assumption | exact h32_0)) (bytesV_one _) (i := 0) rfl (by first | (rw [h32_len (by first | assumption | exact h32_0), h32_len (by first | assumption | exact h32_0)]; decide) | (rw [h32_len (by first | assumption | exact h32_0)]; decide) | rw [h32_len (by first | assumption | exact h32_0)])) ?_; rintro v58 w58 ⟨K58, M58⟩; refine .inl ⟨rfl, Keep nof w58, ?_⟩
            try dsimp only [List.set] at M58
            rw [splice_all _ _ (by first | rw [h32_len (by first | assumption | exact h32_0), h32_len (by first | assumption | exact h32_0)] | rw [h32_len (by first | assumption | exact h32_0)])] at M58
            refine WP.p rfl rfl rfl rfl (fun _ => Ex.asg rfl) ?_
            refine WP.nil ?_
            refine WX.join (gB) ?_ (.cons rfl (.cons rfl (.cons rfl (.cons rfl (.cons rfl (.cons rfl (.cons rfl (.cons rfl (.cons rfl (.nil))))))))))
            exact (Mem.pick M58 [0, 1, 2, 3, 4] (by decide) rfl)
        · skip
          refine WP.as rfl rfl rfl rfl (Ac.alloc M42 (l := bytesV (List.replicate 32 0)) (by kernel_rfl)) ?_; rintro v60 w60 ⟨gB, rfl, hg60, K60, M60⟩
          refine ⟨Keep nof w60, fun u h => K60.trans h, Keep.refl _ _, ?_⟩
          refine WP.as rfl rfl rfl rfl (Ac.call rfl Tryd.func25 nm25 rfl (oLen_ok w60 go gt gl ge vs1 A1 c1 its1 (OxS.of (M60.get (i := 3) rfl)) (by omega))) ?_; rintro v61 w61 ⟨rfl, K61⟩
          refine ⟨Keep nof w61, fun u h => K61.trans h, Keep.refl _ _, ?_⟩
          have M61 := M60.step K61
          refine WP.as rfl rfl rfl rfl (Ac.call rfl Tryd.func13 nm13 rfl (oRoot_ok w61 go gt gl ge vs1 A1 c1 its1 its1.length (OxS.of (M61.get (i := 3) rfl)) (ES.of (M61.get (i := 4) rfl)) (by omega) (hT.keep M61.keep))) ?_; rintro v62 w62 ⟨rfl, K62⟩
          refine ⟨Keep nof w62, fun u h => K62.trans h, Keep.refl _ _, ?_⟩
          rw [htop]
          dsimp only
          have M62 := M61.step K62
          refine WP.p rfl rfl rfl rfl (fun _ => Ex.mv rfl) ?_
          refine WP.p rfl rfl rfl rfl (fun _ => Ex.ext rfl rfl) ?_
          refine WP.p rfl rfl rfl rfl (fun _ => Ex.ext rfl rfl) ?_
          refine WP.a0 rfl rfl rfl (Ac.stA M62 ty31 rfl rfl rfl (h32_len (by first | assumption | exact h32_0)) (bytesV_one _) (i := 0) rfl (by first | (rw [h32_len (by first | assumption | exact h32_0), h32_len (by first | assumption | exact h32_0)]; decide) | (rw [h32_len (by first | assumption | exact h32_0)]; decide) | rw [h32_len (by first | assumption | exact h32_0)])) ?_; rintro v66 w66 ⟨K66, M66⟩; refine .inl ⟨rfl, Keep nof w66, ?_⟩
          try dsimp only [List.set] at M66
          rw [splice_all _ _ (by first | rw [h32_len (by first | assumption | exact h32_0), h32_len (by first | assumption | exact h32_0)] | rw [h32_len (by first | assumption | exact h32_0)])] at M66
          refine WP.p rfl rfl rfl rfl (fun _ => Ex.asg rfl) ?_
          refine WP.nil ?_
          refine WX.join (gB) ?_ (.cons rfl (.cons rfl (.cons rfl (.cons rfl (.cons rfl (.cons rfl (.cons rfl (.cons rfl (.cons rfl (.nil))))))))))
          exact (Mem.pick M66 [0, 1, 2, 3, 4] (by decide) rfl)
      · rintro gB w68 M68
        refine WC.seq ?_
        refine WC.region ?_
        refine WL.ex rfl rfl rfl (Ex.load ty25 rfl (M68.cell (i := 2) rfl rfl)) ?_
        refine WL.ac rfl rfl rfl (Ac.call rfl Tryd.func25 nm25 rfl (oLen_ok w68 go gt gl ge vs1 A1 c1 its1 (OxS.of (M68.get (i := 3) rfl)) (by omega))) ?_; rintro v70 w70 ⟨rfl, K70⟩
        have M70 := M68.step K70
        refine WL.ex rfl rfl rfl (Ex.asg rfl) ?_
        refine WL.nil ?_
        refine WX.next (?_)
        refine WC.seq ?_
        refine WC.region ?_
        refine WL.ex rfl rfl rfl (Ex.mv rfl) ?_
        refine WL.ex rfl rfl rfl (Ex.mv rfl) ?_
        refine WL.ac rfl rfl rfl (Ac.callv rfl rfl ⟨_, _, [], [.pointer (some ⟨g7, 0, none⟩)], rfl, Tryd.func22, by kernel_rfl, rfl, adds_ok w70 go gt gl ge vs1 A1 c1 its1 g7 Mo d2 ms (M70.get (i := 3) rfl) (M70.cell (i := 2) (v := .pointer (some ⟨go, 0, none⟩)) rfl rfl) (M70.apart (i := 2) (j := 3) rfl rfl (by decide) g7 (by simp [blk])) (M70.rd hr2) hokm (fun hne => rd_far M70 3 rfl hr2 (ls_pos hokm hne)) hok1 (by omega) (by omega) (hT.keep M70.keep) (M70.tabF hT 3 rfl)⟩) ?_; rintro v74 w74 ⟨vs2, A2, c2, hok2, hl2, T74⟩
        rw [← hi2] at hok2 hl2 T74
        have M74 := M70.turned (i := 3) rfl T74
        try dsimp only [List.set] at M74
        refine WL.nil ?_
        refine WX.next (?_)
        refine WC.seq ?_
        refine WC.region ?_
        refine WL.ex rfl rfl rfl (Ex.load ty25 rfl (M74.cell (i := 2) rfl rfl)) ?_
        refine WL.ex rfl rfl rfl (Ex.mv rfl) ?_
        refine WL.ac rfl rfl rfl (Ac.call rfl Tryd.func13 nm13 rfl (oRoot_ok w74 go gt gl ge vs2 A2 c2 its2 n (OxS.of (M74.get (i := 3) rfl)) (ES.of (M74.get (i := 4) rfl)) (by omega) (hT.keep M74.keep))) ?_; rintro v77 w77 ⟨rfl, K77⟩
        rw [hroot2]
        dsimp only
        have M77 := M74.step K77
        refine WL.ex rfl rfl rfl (Ex.mv rfl) ?_
        refine WL.ex rfl rfl rfl (Ex.ext rfl rfl) ?_
        refine WL.ex rfl rfl rfl (Ex.ext rfl rfl) ?_
        refine WL.ac rfl rfl rfl (Ac.alloc M77 (l := bytesV (List.replicate 32 0)) (by kernel_rfl)) ?_; rintro v81 w81 ⟨gN, rfl, hg81, K81, M81⟩
        refine WL.ac0 rfl rfl (Ac.stA M81 ty31 rfl rfl rfl (h32_len (by first | assumption | exact h32_0)) (bytesV_one _) (i := 0) rfl (by first | (rw [h32_len (by first | assumption | exact h32_0), h32_len (by first | assumption | exact h32_0)]; decide) | (rw [h32_len (by first | assumption | exact h32_0)]; decide) | rw [h32_len (by first | assumption | exact h32_0)])) ?_; rintro v82 w82 ⟨K82, M82⟩
        try dsimp only [List.set] at M82
        rw [splice_all _ _ (by first | rw [h32_len (by first | assumption | exact h32_0), h32_len (by first | assumption | exact h32_0)] | rw [h32_len (by first | assumption | exact h32_0)])] at M82
        refine WL.ex rfl rfl rfl (Ex.asg rfl) ?_
        refine WL.nil ?_
        refine WX.next (?_)
        refine WC.seq ?_
        refine WC.seq ?_
        refine WC.region ?_
        refine WL.ex rfl rfl rfl (Ex.mv rfl) ?_
        refine WL.ex rfl rfl rfl (Ex.not rfl) ?_
        refine WL.ex rfl rfl rfl (Ex.mv rfl) ?_
        
        refine WL.yes rfl rfl rfl rfl ?_
        refine WL.ex rfl rfl rfl (Ex.mv rfl) ?_
        refine WL.yes rfl rfl rfl rfl ?_
        refine WL.ex rfl rfl rfl (Ex.not rfl) ?_
        
        refine WL.ex rfl rfl rfl (Ex.pickF rfl rfl) ?_
        refine WL.ex rfl rfl rfl (Ex.mv rfl) ?_
        refine WL.yes rfl rfl rfl rfl ?_
        refine WL.ex rfl rfl rfl (Ex.mv rfl) ?_
        refine WL.yes rfl rfl rfl rfl ?_
        refine WL.ex rfl rfl rfl (Ex.not rfl) ?_
        
        refine WL.ex rfl rfl rfl (Ex.pickF rfl rfl) ?_
        refine WL.ex rfl rfl rfl (Ex.mv rfl) ?_
        refine WL.yes rfl rfl rfl rfl ?_
        refine WL.ex rfl rfl rfl (Ex.loadA ty31 rfl (h32_len (by first | assumption | exact h32_0)) (M82.rdw (i := 0) rfl)) ?_
        refine WL.yes rfl rfl rfl rfl ?_
        refine WL.ex rfl rfl rfl (Ex.loadA ty31 rfl (h32_len (by first | assumption | exact h32_0)) (M82.rdw (i := 2) rfl)) ?_
        refine WL.yes rfl rfl rfl rfl ?_
        refine WL.ex rfl rfl rfl (Ex.neA rfl rfl (eqHash w hr32 hr32)) ?_
        rw [decide_eq_true rfl]
        refine WL.ex rfl rfl rfl (Ex.pickF rfl rfl) ?_
        refine WL.nil ?_
        refine WX.next (?_)
        refine WC.no rfl ?_
        refine WC.skip ?_
        refine WX.next (?_)
        refine WC.seq ?_
        refine WC.seq ?_
        refine WC.region ?_
        refine WL.ex rfl rfl rfl (Ex.mv rfl) ?_
        refine WL.ex rfl rfl rfl (Ex.mv rfl) ?_
        refine WL.nil ?_
        refine WX.next (?_)
        refine WC.block ?_
        refine WC.loop (σ := Nat) (fun i => [(0, .slice L l.length d), (2, .int .u64 (n : Int)), (7, .pointer (some ⟨g7, 0, none⟩)), (8, .func (.func 22) #[] #[.pointer (some ⟨g7, 0, none⟩)]), (9, .pointer (some ⟨gA, 0, none⟩)), (11, .pointer (some ⟨gB, 0, none⟩)), (13, .int .u64 (its1.length : Int)), (85, .int .u64 (n : Int)), (86, .int .u64 (i : Int))]) (fun i wr => i ≤ n ∧ Mem w wr nof [blk gB (bytesV (nd dNode e0 ((lsO its1).take its1.length) 32 0)) 31, blk gA (bytesV (nd dNode e0 ((lsO its1).take n) 32 0)) 31, blk g7 [.pointer (some ⟨go, 0, none⟩)] 25, oR go gt gl ge vs2 A2 c2 its2, blk ge (fl (emps dNode e0 (32 + 1))) 31]) (fun i => n - i) (0) ?_ (.cons rfl (.cons rfl (.cons rfl (.cons rfl (.cons rfl (.cons rfl (.cons rfl (.cons rfl (.cons rfl (.nil)))))))))) ?_
        · exact ⟨by omega, (Mem.sub M82 (.cons _ (.refl _)))⟩
        rintro i w101 ⟨hi, M101⟩
        refine WC.seq ?_
        refine WC.region ?_
        refine WL.ex rfl rfl rfl (Ex.lss rfl rfl) ?_
        refine WL.nil ?_
        refine WX.next (?_)
        refine WC.seq ?_
        refine WC.cond_dec rfl (fun hc87 => ?_) (fun hc87 => ?_)
        · obtain ⟨x, hx⟩ : ∃ x, its2[i]? = some x := ⟨_, List.getElem?_eq_getElem (by omega)⟩
          have hxo := hok2 x (List.mem_of_getElem? hx)
          have hgx : its2.getD i itt0 = x := by rw [List.getD, hx]; rfl
          have hmE : mkE (lsO its2) n i = 0 := by rw [mkE, lsO_len, if_neg (by omega), if_neg (by omega)]
          have hmQ : mkQ 32 (lsO its2) n i = mkP 32 (lsO its2) n i := if_pos hmE
          have hpo : PrfOk (mkP 32 (lsO its2) n i) := fillP_ok (lsO32 its2) n i 32
          have hl32 := iLeaf_len x
          have hck := mk_check (ls := lsO its2) (d := 32) (n := n) (i := i) (a := iLeaf x) (by omega) (by rw [lsO_len]; omega) (by rw [lsO_len]; omega) (by rw [lsO, List.getElem?_map, hx]; rfl) (by decide)
          rw [htk] at hck
          refine WC.skip ?_
          refine WX.next (?_)
          refine WC.seq ?_
          refine WC.block ?_
          refine WC.seq ?_
          refine WC.region ?_
          refine WL.ex rfl rfl rfl (Ex.mv rfl) ?_
          refine WL.ex rfl rfl rfl (Ex.asg rfl) ?_
          refine WL.nil ?_
          refine WX.next (?_)
          refine WC.seq ?_
          refine WC.region ?_
          refine WL.ex rfl rfl rfl (Ex.load ty25 rfl (M101.cell (i := 2) rfl rfl)) ?_
          refine WL.ex rfl rfl rfl (Ex.mv rfl) ?_
          refine WL.ex rfl rfl rfl (Ex.mv rfl) ?_
          refine WL.ac rfl rfl rfl (Ac.call rfl Tryd.func14 nm14 rfl (oProve_ok w101 go gt gl ge vs2 A2 c2 its2 n i (OxS.of (M101.get (i := 3) rfl)) (ES.of (M101.get (i := 4) rfl)) (by omega) (by omega) (by omega) (hT.keep M101.keep))) ?_; rintro v108 w108 ⟨rfl, K108⟩
          rw [hmE, hmQ]
          have M108 := M101.step K108
          refine WL.ex rfl rfl rfl (Ex.mv rfl) ?_
          refine WL.ex rfl rfl rfl (Ex.ext rfl rfl) ?_
          refine WL.ex rfl rfl rfl (Ex.ext rfl rfl) ?_
          refine WL.ac rfl rfl rfl (Ac.alloc M108 (l := prfC prf0) (by kernel_rfl)) ?_; rintro v112 w112 ⟨gP, rfl, hg112, K112, M112⟩
          refine WL.ac0 rfl rfl (Ac.stA M112 ty34 rfl rfl rfl (prf_len (by first | assumption | exact prf0_ok)) (prf_one) (i := 0) rfl (by first | (rw [prf_len (by first | assumption | exact prf0_ok), prf_len (by first | assumption | exact prf0_ok)]; decide) | (rw [prf_len (by first | assumption | exact prf0_ok)]; decide) | rw [prf_len (by first | assumption | exact prf0_ok)])) ?_; rintro v113 w113 ⟨K113, M113⟩
          try dsimp only [List.set] at M113
          rw [splice_all _ _ (by first | rw [prf_len (by first | assumption | exact prf0_ok), prf_len (by first | assumption | exact prf0_ok)] | rw [prf_len (by first | assumption | exact prf0_ok)])] at M113
          refine WL.ex rfl rfl rfl (Ex.asg rfl) ?_
          refine WL.nil ?_
          refine WX.next (?_)
          refine WC.seq ?_
          refine WC.region ?_
          refine WL.ex rfl rfl rfl (Ex.load ty25 rfl (M113.cell (i := 3) rfl rfl)) ?_
          refine WL.ex rfl rfl rfl (Ex.mv rfl) ?_
          refine WL.ac rfl rfl rfl (Ac.call rfl Tryd.func19 nm19 rfl (oAt_ok w113 go gt gl ge vs2 A2 c2 its2 i (OxS.of (M113.get (i := 4) rfl)) hok2 (by omega) (by omega))) ?_; rintro v117 w117 ⟨rfl, K117⟩
          rw [hgx, decide_eq_true (show i < its2.length by omega)]
          have M117 := M113.step K117
          refine WL.ex rfl rfl rfl (Ex.mv rfl) ?_
          refine WL.ex rfl rfl rfl (Ex.ext rfl rfl) ?_
          refine WL.ex rfl rfl rfl (Ex.ext rfl rfl) ?_
          refine WL.ac rfl rfl rfl (Ac.alloc M117 (l := ittC itt0) (by kernel_rfl)) ?_; rintro v121 w121 ⟨gx, rfl, hg121, K121, M121⟩
          refine WL.ac0 rfl rfl (Ac.stA M121 ty50 rfl rfl rfl (itt_len (by first | assumption | exact itt0_ok)) itt_one (i := 0) rfl (by first | (rw [itt_len (by first | assumption | exact itt0_ok), itt_len (by first | assumption | exact itt0_ok)]; decide) | (rw [itt_len (by first | assumption | exact itt0_ok)]; decide) | rw [itt_len (by first | assumption | exact itt0_ok)])) ?_; rintro v122 w122 ⟨K122, M122⟩
          try dsimp only [List.set] at M122
          rw [splice_all _ _ (by first | rw [itt_len (by first | assumption | exact itt0_ok), itt_len (by first | assumption | exact itt0_ok)] | rw [itt_len (by first | assumption | exact itt0_ok)])] at M122
          refine WL.ex rfl rfl rfl (Ex.asg rfl) ?_
          refine WL.nil ?_
          refine WX.next (?_)
          refine WC.seq ?_
          refine WC.draw (Keep nof w122.drew) [] (.one 0 0 (.one 1 0 (.one 2 0 (.one 3 0 (.one 4 0 (.one 5 0 (.one 6 0 (.one 8 0 (.one 9 0 (.one 7 1 (.one 10 1 (.one 12 1 (.one 11 2 (.one 13 2 (.one 14 0 (.one 15 0 .nil)))))))))))))))) mixed (by kernel_rfl) (by kernel_rfl) (by kernel_rfl) (HQ.then_ (HQ.block (HQ.then_ (HQ.then_ (HQ.block (HQ.then_ HQ.body)))))) ?_
          obtain ⟨w124, hw124⟩ : ∃ v, v = w122.drew := ⟨_, rfl⟩
          have D124 : Keep nof w122 w124 := by rw [hw124]; exact Keep.drew _ _
          have M124 := M122.step D124
          rw [← hw124]; clear hw124
          refine WP.p rfl rfl rfl rfl (fun _ => Ex.mv rfl) ?_
          refine WP.p rfl rfl rfl rfl (fun _ => Ex.neI rfl rfl) ?_
          rw [show (!decide ((0 : Int) = 0)) = false from rfl]
          refine WP.p rfl rfl rfl rfl (fun _ => Ex.mv rfl) ?_
          refine WP.py rfl rfl rfl rfl rfl rfl (fun _ => Ex.mv rfl) ?_
          refine WP.py rfl rfl rfl rfl rfl rfl (fun _ => Ex.not rfl) ?_
          
          refine WP.p rfl rfl rfl rfl (fun _ => Ex.pickF rfl rfl) ?_
          refine WP.p rfl rfl rfl rfl (fun _ => Ex.mv rfl) ?_
          refine WP.py rfl rfl rfl rfl rfl rfl (fun _ => Ex.mv rfl) ?_
          refine WP.py rfl rfl rfl rfl rfl rfl (fun _ => Ex.mv rfl) ?_
          refine WP.qy (Keep.refl _ _) rfl rfl rfl rfl rfl rfl (fun w' hS => Ex.loadA ty31 rfl (h32_len (by first | assumption | exact h32_0)) ((M124.rdw (i := 3) rfl).keep0 hS)) ?_
          refine WP.qy (Keep.refl _ _) rfl rfl rfl rfl rfl rfl (fun w' hS => Ex.loadA ty50 rfl (itt_len (by first | assumption | exact itt0_ok)) ((M124.rdw (i := 0) rfl).keep0 hS)) ?_
          refine WP.qy (Keep.refl _ _) rfl rfl rfl rfl rfl rfl (fun w' hS => Ex.loadA ty34 rfl (prf_len (by first | assumption | exact prf0_ok)) ((M124.rdw (i := 1) rfl).keep0 hS)) ?_
          refine WP.ays rfl rfl rfl rfl rfl rfl (Ac.call rfl Tryd.func27 nm27 rfl (iLeaf_ok w124 x hxo (hT.keep M124.keep))) ?_; rintro v137 w137 ⟨rfl, K137⟩
          refine ⟨Keep nof w137, fun u h => K137.trans h, Keep.refl _ _, ?_⟩
          have M137 := M124.step K137
          refine WP.ays rfl rfl rfl rfl rfl rfl (Ac.call rfl Tryd.func26 nm26 rfl (check_ok w137 32 (nd dNode e0 ((lsO its1).take n) 32 0) n i (iLeaf x) (mkP 32 (lsO its2) n i) hr32 (by omega) hl32 hpo (hT.keep M137.keep))) ?_; rintro v138 w138 ⟨rfl, K138⟩
          refine ⟨Keep nof w138, fun u h => K138.trans h, Keep.refl _ _, ?_⟩
          rw [show checkR 32 (nd dNode e0 ((lsO its1).take n) 32 0) n i (iLeaf x) (mkP 32 (lsO its2) n i) = 0 from hck]
          have M138 := M137.step K138
          refine WP.py rfl rfl rfl rfl rfl rfl (fun _ => Ex.neI rfl rfl) ?_
          rw [show (!decide ((0 : Int) = 0)) = false from rfl]
          refine WP.p rfl rfl rfl rfl (fun _ => Ex.pickF rfl rfl) ?_
          refine WP.nil ?_
          refine WX.next (?_)
          refine WC.no rfl ?_
          refine WC.skip ?_
          refine WX.normal_block (WX.next (?_))
          refine WC.region ?_
          refine WL.ex rfl rfl rfl (Ex.add rfl rfl (c := ((i + 1 : Nat) : Int)) (by rw [show (i : Int) + 1 = ((i + 1 : Nat) : Int) by omega]; exact u64w_lt _ (by omega))) ?_
          refine WL.ex rfl rfl rfl (Ex.mv rfl) ?_
          refine WL.nil ?_
          refine WX.again (i + 1) ?_ ?_ (.cons rfl (.cons rfl (.cons rfl (.cons rfl (.cons rfl (.cons rfl (.cons rfl (.cons rfl (.cons rfl (.nil))))))))))
          · (try dsimp only); omega
          · exact ⟨by omega, (Mem.sub M138 (.cons _ (.cons _ (.refl _))))⟩
        · skip
          refine WC.exit ?_
          refine WX.exit_then (WX.exit_then (WX.exit_block (WX.next (?_))))
          refine WC.seq ?_
          refine WC.seq ?_
          refine WC.region ?_
          refine WL.ex rfl rfl rfl (Ex.load ty25 rfl (M101.cell (i := 2) rfl rfl)) ?_
          refine WL.ac rfl rfl rfl (Ac.call rfl Tryd.func28 nm28 rfl (oCut_ok w101 go gt gl ge vs2 A2 c2 its2 0 (M101.get (i := 3) rfl) hok2 (by omega) (by decide))) ?_; rintro v144 w144 ⟨vs3, A3, c3, rfl, T144⟩
          rw [decide_eq_true (Nat.zero_le _)]
          rw [List.take_zero] at T144
          have M144 := M101.turned (i := 3) rfl T144
          try dsimp only [List.set] at M144
          refine WL.ex rfl rfl rfl (Ex.not rfl) ?_
          refine WL.nil ?_
          refine WX.next (?_)
          
          refine WC.no rfl ?_
          refine WC.skip ?_
          refine WX.next (?_)
          refine WC.seq ?_
          refine WC.region ?_
          refine WL.ex rfl rfl rfl (Ex.mv rfl) ?_
          refine WL.ex rfl rfl rfl (Ex.mv rfl) ?_
          refine WL.ac rfl rfl rfl (Ac.callv rfl rfl ⟨_, _, [], [.pointer (some ⟨g7, 0, none⟩)], rfl, Tryd.func22, by kernel_rfl, rfl, adds_ok w144 go gt gl ge vs3 A3 c3 [] g7 L d l (M144.get (i := 3) rfl) (M144.cell (i := 2) (v := .pointer (some ⟨go, 0, none⟩)) rfl rfl) (M144.apart (i := 2) (j := 3) rfl rfl (by decide) g7 (by simp [blk])) (M144.rd hr) hokl (fun hne => rd_far M144 3 rfl hr (ls_pos hokl hne)) (by simp) (by decide) (by omega) (hT.keep M144.keep) (M144.tabF hT 3 rfl)⟩) ?_; rintro v148 w148 ⟨vs4, A4, c4, hok4, hl4, T148⟩
          rw [← hi1] at hok4 hl4 T148
          have M148 := M144.turned (i := 3) rfl T148
          try dsimp only [List.set] at M148
          refine WL.nil ?_
          refine WX.next (?_)
          refine WC.seq ?_
          refine WC.region ?_
          refine WL.ex rfl rfl rfl (Ex.load ty25 rfl (M148.cell (i := 2) rfl rfl)) ?_
          refine WL.ex rfl rfl rfl (Ex.mv rfl) ?_
          refine WL.ac rfl rfl rfl (Ac.call rfl Tryd.func13 nm13 rfl (oRoot_ok w148 go gt gl ge vs4 A4 c4 its1 its1.length (OxS.of (M148.get (i := 3) rfl)) (ES.of (M148.get (i := 4) rfl)) (by omega) (hT.keep M148.keep))) ?_; rintro v151 w151 ⟨rfl, K151⟩
          rw [htop]
          dsimp only
          have M151 := M148.step K151
          refine WL.ex rfl rfl rfl (Ex.mv rfl) ?_
          refine WL.ex rfl rfl rfl (Ex.ext rfl rfl) ?_
          refine WL.ex rfl rfl rfl (Ex.ext rfl rfl) ?_
          refine WL.ac rfl rfl rfl (Ac.alloc M151 (l := bytesV (List.replicate 32 0)) (by kernel_rfl)) ?_; rintro v155 w155 ⟨gZ, rfl, hg155, K155, M155⟩
          refine WL.ac0 rfl rfl (Ac.stA M155 ty31 rfl rfl rfl (h32_len (by first | assumption | exact h32_0)) (bytesV_one _) (i := 0) rfl (by first | (rw [h32_len (by first | assumption | exact h32_0), h32_len (by first | assumption | exact h32_0)]; decide) | (rw [h32_len (by first | assumption | exact h32_0)]; decide) | rw [h32_len (by first | assumption | exact h32_0)])) ?_; rintro v156 w156 ⟨K156, M156⟩
          try dsimp only [List.set] at M156
          rw [splice_all _ _ (by first | rw [h32_len (by first | assumption | exact h32_0), h32_len (by first | assumption | exact h32_0)] | rw [h32_len (by first | assumption | exact h32_0)])] at M156
          refine WL.ex rfl rfl rfl (Ex.asg rfl) ?_
          refine WL.nil ?_
          refine WX.next (?_)
          refine WC.seq ?_
          refine WC.region ?_
          refine WL.ex rfl rfl rfl (Ex.mv rfl) ?_
          refine WL.ex rfl rfl rfl (Ex.mv rfl) ?_
          
          refine WL.yes rfl rfl rfl rfl ?_
          refine WL.ex rfl rfl rfl (Ex.loadA ty31 rfl (h32_len (by first | assumption | exact h32_0)) (M156.rdw (i := 0) rfl)) ?_
          refine WL.yes rfl rfl rfl rfl ?_
          refine WL.ex rfl rfl rfl (Ex.loadA ty31 rfl (h32_len (by first | assumption | exact h32_0)) (M156.rdw (i := 1) rfl)) ?_
          refine WL.yes rfl rfl rfl rfl ?_
          refine WL.ex rfl rfl rfl (Ex.eqA rfl rfl (eqHash w ht32 ht32)) ?_
          rw [decide_eq_true rfl]
          refine WL.ex rfl rfl rfl (Ex.pickT rfl rfl) ?_
          refine WL.ex rfl rfl rfl (Ex.mv rfl) ?_
          refine WL.yes rfl rfl rfl rfl ?_
          refine WL.ex rfl rfl rfl (Ex.load ty25 rfl (M156.cell (i := 3) rfl rfl)) ?_
          refine WL.yes rfl rfl rfl rfl ?_
          refine WL.ac rfl rfl rfl (Ac.call rfl Tryd.func25 nm25 rfl (oLen_ok w156 go gt gl ge vs4 A4 c4 its1 (OxS.of (M156.get (i := 4) rfl)) (by omega))) ?_; rintro v166 w166 ⟨rfl, K166⟩
          have M166 := M156.step K166
          refine WL.yes rfl rfl rfl rfl ?_
          refine WL.ex rfl rfl rfl (Ex.mv rfl) ?_
          refine WL.yes rfl rfl rfl rfl ?_
          refine WL.ex rfl rfl rfl (Ex.eqI rfl rfl) ?_
          rw [decide_eq_true rfl]
          refine WL.ex rfl rfl rfl (Ex.pickT rfl rfl) ?_
          refine WL.ex rfl rfl rfl (Ex.asg rfl) ?_
          refine WL.nil ?_
          refine WX.next (?_)
          refine WC.ret ?_
          refine WX.ret1 rfl rfl ?_
          exact ⟨rfl, M166.keep⟩

end Go.Proofs.YtchmjpdkonfifaaDoor
