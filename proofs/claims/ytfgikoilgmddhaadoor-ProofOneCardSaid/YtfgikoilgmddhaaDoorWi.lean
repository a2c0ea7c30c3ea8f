/- Walks, written by gen.py off the translation's own print: each says what the Go function comes to. -/
import Derived.Test.YtfgikoilgmddhaaDoorWg
set_option linter.unusedVariables false
set_option linter.unusedSimpArgs false
namespace Go.Proofs.YtfgikoilgmddhaaDoor
open Go.Sx Go.RowKit
attribute [local irreducible] Ac Ex WL WC WX WP Gives sha

/-- A proof without its places from d up to k. -/
def zF (P : Hs) (d k : Nat) : Hs := (List.range 32).map fun j => if d ≤ j ∧ j < k then zH else P.getD j []
theorem zF_0 {P : Hs} (h : P.length = 32) (d : Nat) : zF P d d = P := by
  apply List.ext_getElem?
  intro j
  rw [zF, List.getElem?_map]
  rcases Nat.lt_or_ge j 32 with hj | hj
  · rw [List.getElem?_range hj, Option.map_some, if_neg (by omega), List.getD, List.getElem?_eq_getElem (by omega)]
    rfl
  · rw [List.getElem?_eq_none (by simpa using hj), List.getElem?_eq_none (by omega)]
    rfl
theorem zF_set {P : Hs} {d k : Nat} (hd : d ≤ k) (hk : k < 32) : (zF P d k).set k zH = zF P d (k + 1) := by
  apply List.ext_getElem?
  intro j
  rw [List.getElem?_set]
  simp only [zF, List.getElem?_map, List.length_map, List.length_range]
  rcases Nat.lt_or_ge j 32 with hj | hj
  · rw [List.getElem?_range hj]
    by_cases hkj : k = j
    · subst hkj
      rw [if_pos rfl, if_pos hk, Option.map_some, if_pos ⟨hd, by omega⟩]
    · rw [if_neg hkj, Option.map_some, Option.map_some]
      congr 1
      by_cases hc : d ≤ j ∧ j < k
      · rw [if_pos hc, if_pos ⟨hc.1, by omega⟩]
      · rw [if_neg hc, if_neg (by omega)]
  · rw [if_neg (by omega), List.getElem?_eq_none (by simpa using hj)]
    rfl
theorem zF_ok {P : Hs} (h : PrfOk P) (d k : Nat) : PrfOk (zF P d k) := ⟨by simp [zF], fun a ha => by
  obtain ⟨j, hj, rfl⟩ := List.mem_map.1 ha
  have hj := List.mem_range.1 hj
  split
  · exact h32_0
  · rw [List.getD, List.getElem?_eq_getElem (by rw [h.len]; exact hj)]
    exact h.mem _ (List.getElem_mem _)⟩
theorem zF_drop {P : Hs} {d : Nat} : ∀ x ∈ (zF P d 32).drop d, x = zH := by
  intro x hx
  obtain ⟨j, hj⟩ := List.getElem?_of_mem hx
  rw [List.getElem?_drop, zF, List.getElem?_map] at hj
  have hjl : d + j < 32 := by
    rcases Nat.lt_or_ge (d + j) 32 with h | h
    · exact h
    · rw [List.getElem?_eq_none (by simpa using h)] at hj; cases hj
  rw [List.getElem?_range hjl, Option.map_some, if_pos ⟨by omega, hjl⟩] at hj
  exact (Option.some.inj hj).symm

/- sponsion/sponsionlaw11.ProofOne -/
theorem proofOne_walk (w : World) (x : Nat) (i : Nat) (a b : List UInt8) (P Q : Hs) (hx : x < 256) (hi : i < 18446744073709551616) (ha : H32 a) (hb : H32 b) (hP : PrfOk P) (hQ : PrfOk Q) (hT : Tabs w) :
    Gives Tryd.prog 6 #[.int .u8 (x : Int), .int .u64 (i : Int), .agg (bytesV a).toArray, .agg (bytesV b).toArray, .agg (prfC P).toArray, .agg (prfC Q).toArray] w fun u w1 => u = .bool true ∧ Keep nof w w1 := by
  have M0 := Mem.start w nof
  obtain ⟨d, hd⟩ : ∃ d, d = x % 33 := ⟨_, rfl⟩
  have hd32 : d ≤ 32 := by omega
  have hp2 := pow32 hd32
  obtain ⟨j, hj⟩ : ∃ j, j = i % 2 ^ d := ⟨_, rfl⟩
  have hjl : j < 2 ^ d := by rw [hj]; exact Nat.mod_lt _ (Nat.pow_pos (by decide))
  have hj0 : j / 2 ^ d = 0 := Nat.div_eq_of_lt hjl
  have hPz := zF_ok hP d 32
  have hQz := zF_ok hQ d 32
  have hca := climb_0 (a := a) (P := zF P d 32) hd32 hj0 zF_drop
  have hcb := climb_0 (a := b) (P := zF Q d 32) hd32 hj0 zF_drop
  have ha32 := clB32 (P := zF P d 32) (i := j) ha d
  have hb32 := clB32 (P := zF Q d 32) (i := j) hb d
  refine Gives.enter (n := 78) Tryd.func6 rfl Tryd.ntmps6 rfl (env := [(0, .int .u8 (x : Int)), (1, .int .u64 (i : Int)), (2, .agg (bytesV a).toArray), (3, .agg (bytesV b).toArray), (4, .agg (prfC P).toArray), (5, .agg (prfC Q).toArray)]) rfl ?_
  refine WC.seq ?_
  refine WC.region ?_
  refine WL.ac rfl rfl rfl (Ac.box M0 rfl rfl) ?_; rintro v1 w1 ⟨ga, rfl, hg1, K1, M1⟩
  refine WL.ac rfl rfl rfl (Ac.box M1 rfl rfl) ?_; rintro v2 w2 ⟨gb, rfl, hg2, K2, M2⟩
  refine WL.ac rfl rfl rfl (Ac.box M2 rfl rfl) ?_; rintro v3 w3 ⟨gP, rfl, hg3, K3, M3⟩
  refine WL.ac rfl rfl rfl (Ac.box M3 rfl rfl) ?_; rintro v4 w4 ⟨gQ, rfl, hg4, K4, M4⟩
  refine WL.ex rfl rfl rfl (Ex.asg rfl) ?_
  refine WL.nil ?_
  refine WX.next (?_)
  refine WC.seq ?_
  refine WC.seq ?_
  refine WC.region ?_
  refine WL.ac rfl rfl rfl (Ac.call rfl Tryd.func17 nm17 rfl (lives11_ok w4 (hT.keep M4.keep))) ?_; rintro v6 w6 ⟨rfl, K6⟩
  have M6 := M4.step K6
  refine WL.ex rfl rfl rfl (Ex.not rfl) ?_
  refine WL.nil ?_
  refine WX.next (?_)
  refine WC.no rfl ?_
  refine WC.skip ?_
  refine WX.next (?_)
  refine WC.seq ?_
  refine WC.region ?_
  refine WL.ex rfl rfl rfl (Ex.mv rfl) ?_
  refine WL.ex rfl rfl rfl (Ex.rem rfl rfl (by decide) (c := ((d : Nat) : Int)) (by rw [hd]; exact tmodT _ 33)) ?_
  refine WL.ex rfl rfl rfl (Ex.cvI Tryd.underlying5 Tryd.underlying3 rfl (i64w _ (by omega) (by omega))) ?_
  refine WL.ex rfl rfl rfl (Ex.asg rfl) ?_
  refine WL.nil ?_
  refine WX.next (?_)
  refine WC.seq ?_
  refine WC.seq ?_
  refine WC.region ?_
  refine WL.ex rfl rfl rfl (Ex.mv rfl) ?_
  refine WL.ex rfl rfl rfl (Ex.asg rfl) ?_
  refine WL.nil ?_
  refine WX.next (?_)
  refine WC.block ?_
  refine WC.loop (σ := Nat) (fun k => [(1, .int .u64 (i : Int)), (8, .pointer (some ⟨ga, 0, none⟩)), (9, .pointer (some ⟨gb, 0, none⟩)), (10, .pointer (some ⟨gP, 0, none⟩)), (11, .pointer (some ⟨gQ, 0, none⟩)), (13, .int .i64 (d : Int)), (14, .int .i64 (k : Int))]) (fun k wr => d ≤ k ∧ k ≤ 32 ∧ Mem w wr nof [blk gQ (prfC (zF Q d k)) 38, blk gP (prfC (zF P d k)) 38, blk gb (bytesV (b)) 28, blk ga (bytesV (a)) 28]) (fun k => 32 - k) (d) ?_ (.cons rfl (.cons rfl (.cons rfl (.cons rfl (.cons rfl (.cons rfl (.cons rfl (.nil)))))))) ?_
  · refine ⟨by omega, hd32, ?_⟩
    rw [zF_0 hP.len, zF_0 hQ.len]
    exact M6
  rintro k w14 ⟨hdk, hk, M14⟩
  refine WC.seq ?_
  refine WC.seq ?_
  refine WC.region ?_
  refine WL.ex rfl rfl rfl (Ex.mv rfl) ?_
  refine WL.ex rfl rfl rfl (Ex.lss rfl rfl) ?_
  refine WL.nil ?_
  refine WX.next (?_)
  refine WC.cond_dec rfl (fun hc26 => ?_) (fun hc26 => ?_)
  · skip
    refine WC.skip ?_
    refine WX.next (?_)
    refine WC.seq ?_
    refine WC.block ?_
    refine WC.region ?_
    refine WL.ex rfl rfl rfl (Ex.mv rfl) ?_
    refine WL.ex rfl rfl rfl (Ex.mv rfl) ?_
    refine WL.ex rfl rfl rfl (Ex.bld bd28 (parts := []) (l := bytesV (List.replicate 32 0)) rfl rfl rfl rfl) ?_
    refine WL.ex rfl rfl rfl (Ex.bld bd28 (parts := []) (l := bytesV (List.replicate 32 0)) rfl rfl rfl rfl) ?_
    refine WL.ex rfl rfl rfl (Ex.iaA Tryd.underlying38 sz28 rfl rfl ⟨by omega, by omega⟩) ?_
    refine WL.ac0 rfl rfl (Ac.stA M14 ty28 rfl rfl (vs := bytesV zH) rfl (h32_len h32_0) (bytesV_one _) (i := 1) rfl (by rw [h32_len h32_0, prf_len (zF_ok hP d k)]; simp; omega)) ?_; rintro v22 w22 ⟨K22, M22⟩
    try dsimp only [List.set] at M22
    try simp only [prfC] at M22
    rw [flat_set (fun a ha => h32_len ((zF_ok hP d k).mem a ha)) (h32_len h32_0) (i := k) (by rw [(zF_ok hP d k).len]; omega) (by simp)] at M22
    rw [zF_set hdk (by omega)] at M22
    refine WL.ex rfl rfl rfl (Ex.iaA Tryd.underlying38 sz28 rfl rfl ⟨by omega, by omega⟩) ?_
    refine WL.ac0 rfl rfl (Ac.stA M22 ty28 rfl rfl (vs := bytesV zH) rfl (h32_len h32_0) (bytesV_one _) (i := 0) rfl (by rw [h32_len h32_0, prf_len (zF_ok hQ d k)]; simp; omega)) ?_; rintro v24 w24 ⟨K24, M24⟩
    try dsimp only [List.set] at M24
    try simp only [prfC] at M24
    rw [flat_set (fun a ha => h32_len ((zF_ok hQ d k).mem a ha)) (h32_len h32_0) (i := k) (by rw [(zF_ok hQ d k).len]; omega) (by simp)] at M24
    rw [zF_set hdk (by omega)] at M24
    refine WL.nil ?_
    refine WX.normal_block (WX.next (?_))
    refine WC.region ?_
    refine WL.ex rfl rfl rfl (Ex.mv rfl) ?_
    refine WL.ex rfl rfl rfl (Ex.add rfl rfl (i64w _ (by omega) (by omega))) ?_
    refine WL.ex rfl rfl rfl (Ex.asg rfl) ?_
    refine WL.nil ?_
    refine WX.again (k + 1) ?_ ?_ (.cons rfl (.cons rfl (.cons rfl (.cons rfl (.cons rfl (.cons rfl (.cons rfl (.nil))))))))
    · (try dsimp only); omega
    · exact ⟨by omega, by omega, M24⟩
  · obtain rfl : k = 32 := by omega
    refine WC.exit ?_
    refine WX.exit_then (WX.exit_then (WX.exit_block (WX.next (?_))))
    refine WC.seq ?_
    refine WC.region ?_
    refine WL.ex rfl rfl rfl (Ex.mv rfl) ?_
    refine WL.ex rfl rfl rfl (Ex.mv rfl) ?_
    refine WL.ac rfl rfl rfl (Ac.call rfl Tryd.func24 nm24 rfl (places_ok w14 d 0 hd32 (by decide))) ?_; rintro v30 w30 ⟨rfl, K30⟩
    rw [places_0]
    have M30 := M14.step K30
    refine WL.ex rfl rfl rfl (Ex.rem rfl rfl (by omega) (c := ((j : Nat) : Int)) (by rw [hj]; exact tmodT _ _)) ?_
    refine WL.ex rfl rfl rfl (Ex.asg rfl) ?_
    refine WL.nil ?_
    refine WX.next (?_)
    refine WC.seq ?_
    refine WC.region ?_
    refine WL.ex rfl rfl rfl (Ex.mv rfl) ?_
    refine WL.ex rfl rfl rfl (Ex.mv rfl) ?_
    refine WL.ex rfl rfl rfl (Ex.loadA ty28 rfl (h32_len (by first | assumption | exact h32_0)) (M30.rdw (i := 3) rfl)) ?_
    refine WL.ex rfl rfl rfl (Ex.loadA ty38 rfl (prf_len (by first | assumption | exact prf0_ok)) (M30.rdw (i := 1) rfl)) ?_
    refine WL.ac rfl rfl rfl (Ac.call rfl Tryd.func26 nm26 rfl (climb_ok w30 (d : Int) j a (zF P d 32) (by omega) ha (zF_ok hP d 32) (hT.keep M30.keep))) ?_; rintro v37 w37 ⟨rfl, K37⟩
    rw [hca]
    dsimp only
    have M37 := M30.step K37
    refine WL.ex rfl rfl rfl (Ex.mv rfl) ?_
    refine WL.ex rfl rfl rfl (Ex.ext rfl rfl) ?_
    refine WL.ex rfl rfl rfl (Ex.ext rfl rfl) ?_
    refine WL.ac rfl rfl rfl (Ac.alloc M37 (l := bytesV (List.replicate 32 0)) (by kernel_rfl)) ?_; rintro v41 w41 ⟨gx, rfl, hg41, K41, M41⟩
    refine WL.ac0 rfl rfl (Ac.stA M41 ty28 rfl rfl rfl (h32_len (by first | assumption | exact h32_0)) (bytesV_one _) (i := 0) rfl (by first | (rw [h32_len (by first | assumption | exact h32_0), h32_len (by first | assumption | exact h32_0)]; decide) | (rw [h32_len (by first | assumption | exact h32_0)]; decide) | rw [h32_len (by first | assumption | exact h32_0)])) ?_; rintro v42 w42 ⟨K42, M42⟩
    try dsimp only [List.set] at M42
    rw [splice_all _ _ (by first | rw [h32_len (by first | assumption | exact h32_0), h32_len (by first | assumption | exact h32_0)] | rw [h32_len (by first | assumption | exact h32_0)])] at M42
    refine WL.ex rfl rfl rfl (Ex.asg rfl) ?_
    refine WL.nil ?_
    refine WX.next (?_)
    refine WC.seq ?_
    refine WC.region ?_
    refine WL.ex rfl rfl rfl (Ex.mv rfl) ?_
    refine WL.ex rfl rfl rfl (Ex.mv rfl) ?_
    refine WL.ex rfl rfl rfl (Ex.loadA ty28 rfl (h32_len (by first | assumption | exact h32_0)) (M42.rdw (i := 3) rfl)) ?_
    refine WL.ex rfl rfl rfl (Ex.loadA ty38 rfl (prf_len (by first | assumption | exact prf0_ok)) (M42.rdw (i := 1) rfl)) ?_
    refine WL.ac rfl rfl rfl (Ac.call rfl Tryd.func26 nm26 rfl (climb_ok w42 (d : Int) j b (zF Q d 32) (by omega) hb (zF_ok hQ d 32) (hT.keep M42.keep))) ?_; rintro v48 w48 ⟨rfl, K48⟩
    rw [hcb]
    dsimp only
    have M48 := M42.step K48
    refine WL.ex rfl rfl rfl (Ex.mv rfl) ?_
    refine WL.ex rfl rfl rfl (Ex.ext rfl rfl) ?_
    refine WL.ex rfl rfl rfl (Ex.ext rfl rfl) ?_
    refine WL.ac rfl rfl rfl (Ac.alloc M48 (l := bytesV (List.replicate 32 0)) (by kernel_rfl)) ?_; rintro v52 w52 ⟨gy, rfl, hg52, K52, M52⟩
    refine WL.ac0 rfl rfl (Ac.stA M52 ty28 rfl rfl rfl (h32_len (by first | assumption | exact h32_0)) (bytesV_one _) (i := 0) rfl (by first | (rw [h32_len (by first | assumption | exact h32_0), h32_len (by first | assumption | exact h32_0)]; decide) | (rw [h32_len (by first | assumption | exact h32_0)]; decide) | rw [h32_len (by first | assumption | exact h32_0)])) ?_; rintro v53 w53 ⟨K53, M53⟩
    try dsimp only [List.set] at M53
    rw [splice_all _ _ (by first | rw [h32_len (by first | assumption | exact h32_0), h32_len (by first | assumption | exact h32_0)] | rw [h32_len (by first | assumption | exact h32_0)])] at M53
    refine WL.ex rfl rfl rfl (Ex.asg rfl) ?_
    refine WL.nil ?_
    refine WX.next (?_)
    refine WC.seq ?_
    refine WC.seq ?_
    refine WC.region ?_
    refine WL.ex rfl rfl rfl (Ex.mv rfl) ?_
    refine WL.ex rfl rfl rfl (Ex.neI rfl rfl) ?_
    rw [show (!decide ((0 : Int) = 0)) = false from rfl]
    refine WL.ex rfl rfl rfl (Ex.mv rfl) ?_
    refine WL.yes rfl rfl rfl rfl ?_
    refine WL.ex rfl rfl rfl (Ex.mv rfl) ?_
    refine WL.yes rfl rfl rfl rfl ?_
    refine WL.ex rfl rfl rfl (Ex.neI rfl rfl) ?_
    rw [show (!decide ((0 : Int) = 0)) = false from rfl]
    refine WL.ex rfl rfl rfl (Ex.pickF rfl rfl) ?_
    refine WL.nil ?_
    refine WX.next (?_)
    refine WC.no rfl ?_
    refine WC.skip ?_
    refine WX.next (?_)
    refine WC.seq ?_
    refine WC.region ?_
    refine WL.ex rfl rfl rfl (Ex.loadA ty28 rfl (h32_len (by first | assumption | exact h32_0)) (M53.rdw (i := 1) rfl)) ?_
    refine WL.ex rfl rfl rfl (Ex.loadA ty28 rfl (h32_len (by first | assumption | exact h32_0)) (M53.rdw (i := 0) rfl)) ?_
    refine WL.ex rfl rfl rfl (Ex.neA rfl rfl (eqHash w ha32 hb32)) ?_
    refine WL.ex rfl rfl rfl (Ex.mv rfl) ?_
    by_cases hxy : ¬ clB (zF P d 32) j a d = clB (zF Q d 32) j b d
    · rw [decide_eq_false hxy]
      refine WL.no rfl rfl rfl rfl rfl rfl ?_
      refine WL.no rfl rfl rfl rfl rfl rfl ?_
      refine WL.no rfl rfl rfl rfl rfl rfl ?_
      refine WL.ex rfl rfl rfl (Ex.pickT rfl rfl) ?_
      refine WL.ex rfl rfl rfl (Ex.mv rfl) ?_
      refine WL.no rfl rfl rfl rfl rfl rfl ?_
      refine WL.no rfl rfl rfl rfl rfl rfl ?_
      refine WL.no rfl rfl rfl rfl rfl rfl ?_
      refine WL.no rfl rfl rfl rfl rfl rfl ?_
      refine WL.no rfl rfl rfl rfl rfl rfl ?_
      refine WL.no rfl rfl rfl rfl rfl rfl ?_
      refine WL.no rfl rfl rfl rfl rfl rfl ?_
      refine WL.ex rfl rfl rfl (Ex.pickT rfl rfl) ?_
      refine WL.ex rfl rfl rfl (Ex.asg rfl) ?_
      refine WL.nil ?_
      refine WX.next (?_)
      refine WC.ret ?_
      refine WX.ret1 rfl rfl ?_
      exact ⟨rfl, M53.keep⟩
    · rw [decide_eq_true (Decidable.not_not.1 hxy)]
      refine WL.yes rfl rfl rfl rfl ?_
      refine WL.ex rfl rfl rfl (Ex.loadA ty28 rfl (h32_len (by first | assumption | exact h32_0)) (M53.rdw (i := 5) rfl)) ?_
      refine WL.yes rfl rfl rfl rfl ?_
      refine WL.ex rfl rfl rfl (Ex.loadA ty28 rfl (h32_len (by first | assumption | exact h32_0)) (M53.rdw (i := 4) rfl)) ?_
      refine WL.yes rfl rfl rfl rfl ?_
      refine WL.ex rfl rfl rfl (Ex.eqA rfl rfl (eqHash w ha hb)) ?_
      by_cases hab : a = b
      · rw [decide_eq_true hab]
        refine WL.ex rfl rfl rfl (Ex.pickF rfl rfl) ?_
        refine WL.ex rfl rfl rfl (Ex.mv rfl) ?_
        refine WL.no rfl rfl rfl rfl rfl rfl ?_
        refine WL.no rfl rfl rfl rfl rfl rfl ?_
        refine WL.no rfl rfl rfl rfl rfl rfl ?_
        refine WL.no rfl rfl rfl rfl rfl rfl ?_
        refine WL.no rfl rfl rfl rfl rfl rfl ?_
        refine WL.no rfl rfl rfl rfl rfl rfl ?_
        refine WL.no rfl rfl rfl rfl rfl rfl ?_
        refine WL.ex rfl rfl rfl (Ex.pickT rfl rfl) ?_
        refine WL.ex rfl rfl rfl (Ex.asg rfl) ?_
        refine WL.nil ?_
        refine WX.next (?_)
        refine WC.ret ?_
        refine WX.ret1 rfl rfl ?_
        exact ⟨rfl, M53.keep⟩
      · rw [decide_eq_false hab]
        refine WL.ex rfl rfl rfl (Ex.pickF rfl rfl) ?_
        refine WL.ex rfl rfl rfl (Ex.mv rfl) ?_
        refine WL.yes rfl rfl rfl rfl ?_
        refine WL.ex rfl rfl rfl (Ex.mv rfl) ?_
        refine WL.yes rfl rfl rfl rfl ?_
        refine WL.ex rfl rfl rfl (Ex.mv rfl) ?_
        refine WL.yes rfl rfl rfl rfl ?_
        refine WL.ex rfl rfl rfl (Ex.loadA ty28 rfl (h32_len (by first | assumption | exact h32_0)) (M53.rdw (i := 5) rfl)) ?_
        refine WL.yes rfl rfl rfl rfl ?_
        refine WL.ex rfl rfl rfl (Ex.loadA ty38 rfl (prf_len (by first | assumption | exact prf0_ok)) (M53.rdw (i := 3) rfl)) ?_
        refine WL.yes rfl rfl rfl rfl ?_
        refine WL.ex rfl rfl rfl (Ex.loadA ty28 rfl (h32_len (by first | assumption | exact h32_0)) (M53.rdw (i := 4) rfl)) ?_
        refine WL.yes rfl rfl rfl rfl ?_
        refine WL.ex rfl rfl rfl (Ex.loadA ty38 rfl (prf_len (by first | assumption | exact prf0_ok)) (M53.rdw (i := 2) rfl)) ?_
        refine WL.yes rfl rfl rfl rfl ?_
        refine WL.ac rfl rfl rfl (Ac.call rfl Tryd.func27 nm27 rfl (collides_ok w53 d j a (zF P d 32) b (zF Q d 32) hd32 (by omega) ha hPz hb hQz (hT.keep M53.keep))) ?_; rintro v84 w84 ⟨rfl, K84⟩
        rw [col_of hab (Decidable.not_not.1 hxy)]
        have M84 := M53.step K84
        refine WL.ex rfl rfl rfl (Ex.pickF rfl rfl) ?_
        refine WL.ex rfl rfl rfl (Ex.asg rfl) ?_
        refine WL.nil ?_
        refine WX.next (?_)
        refine WC.ret ?_
        refine WX.ret1 rfl rfl ?_
        exact ⟨rfl, M84.keep⟩

end Go.Proofs.YtfgikoilgmddhaaDoor
