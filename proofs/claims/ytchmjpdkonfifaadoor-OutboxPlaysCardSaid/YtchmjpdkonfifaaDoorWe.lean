/- Walks, written by gen.py off the translation's own print: each says what the Go function comes to. -/
import Derived.Test.YtchmjpdkonfifaaDoorWa
set_option linter.unusedVariables false
set_option linter.unusedSimpArgs false
namespace Go.Proofs.YtchmjpdkonfifaaDoor
open Go.Sx Go.RowKit
attribute [local irreducible] Ac Ex WL WC WX WP Gives sha

theorem _root_.Go.Sx.Ex.slAlE {P : Program} {n : Nat} {env : Env} {w : World} {dst : Option Nat} {ty : TypeId} {pos : String} {aft : Array Edge} {g : Option (Nat × Bool)} {t e : TypeId} {x y : Operand} {b o m sz : Nat} {k : IntKind} {j : Int} (ht : P.underlying t = some (.array m e)) (he : (P.info? e).map (·.size) = some sz) (hx : ev env x = some (.pointer (some ⟨b, o, none⟩))) (hy : ev env y = some (.int k j)) (h0 : 0 ≤ j) (h1 : j ≤ m) :
    Ex P n env (Oper.mk dst (.slice t x (some y) none none) ty pos aft g) (.slice (some ⟨b, if m = j.toNat then o else o + j.toNat * sz, none⟩) (m - j.toNat) (m - j.toNat)) w := by
  unfold Go.Sx.Ex
  intro a ha
  by_cases hne : m = j.toNat
  · subst hne
    simp [execOp, ha.eval hx, ha.eval hy, Instr.sliceAt, run_underlying ht, Instr.sureAddr, Instr.sliceBounds, run_bound h0 h1, Go.Sx.run_sizeOf he]
  · simp [execOp, ha.eval hx, ha.eval hy, Instr.sliceAt, run_underlying ht, Instr.sureAddr, Instr.sliceBounds, run_bound h0 h1, Go.Sx.run_sizeOf he, hne, add0]
def clB (P : Hs) (i : Nat) (a : List UInt8) : Nat → List UInt8
  | 0 => a
  | k + 1 => if i / 2 ^ k % 2 = 0 then dNode (clB P i a k) (P.getD k []) else dNode (P.getD k []) (clB P i a k)
theorem clB32 {P : Hs} {i : Nat} {a : List UInt8} (ha : H32 a) : ∀ k, H32 (clB P i a k)
  | 0 => ha
  | k + 1 => by unfold clB; split <;> exact dNode_len _ _
abbrev zH : List UInt8 := List.replicate 32 0
/-- What is told of a climb. -/
def climbR (z : Int) (i : Nat) (a : List UInt8) (P : Hs) : List UInt8 × Int :=
  if z < 0 ∨ 32 < z then (zH, 1) else if i / 2 ^ z.toNat ≠ 0 then (zH, 10) else if ∀ x ∈ P.drop z.toNat, x = zH then (clB P i a z.toNat, 0) else (zH, 6)
theorem climb_1 {z : Int} {i : Nat} {a : List UInt8} {P : Hs} (h : z < 0 ∨ 32 < z) : climbR z i a P = (zH, 1) := if_pos h
theorem climb_10 {d i : Nat} {a : List UInt8} {P : Hs} (hd : d ≤ 32) (h : i / 2 ^ d ≠ 0) : climbR (d : Int) i a P = (zH, 10) := by rw [climbR, if_neg (by omega), if_pos (by simpa using h)]
theorem climb_6 {d i : Nat} {a x : List UInt8} {P : Hs} (hd : d ≤ 32) (h : i / 2 ^ d = 0) (hx : x ∈ P.drop d) (hn : x ≠ zH) : climbR (d : Int) i a P = (zH, 6) := by
  rw [climbR, if_neg (by omega), if_neg (by simpa using h), if_neg (fun hall => hn (hall x (by simpa using hx)))]
theorem climb_0 {d i : Nat} {a : List UInt8} {P : Hs} (hd : d ≤ 32) (h : i / 2 ^ d = 0) (hx : ∀ x ∈ P.drop d, x = zH) : climbR (d : Int) i a P = (clB P i a d, 0) := by
  rw [climbR, if_neg (by omega), if_neg (by simpa using h), if_pos (by simpa using hx)]
  rfl

/- sponsion/proof.Climb -/
theorem climb_ok (w : World) (z : Int) (i : Nat) (a : List UInt8) (P : Hs) (hi : i < 18446744073709551616) (ha : H32 a) (hP : PrfOk P) (hT : Tabs w) :
    Gives Tryd.prog 55 #[.int .i64 z, .int .u64 (i : Int), .agg (bytesV a).toArray, .agg (prfC P).toArray] w fun u w1 => u = .tuple #[.agg (bytesV (climbR z i a P).1).toArray, .int .i64 (climbR z i a P).2] ∧ Keep nof w w1 := by
  have M0 := Mem.start w nof
  have hPl : P.length = 32 := hP.len
  have hPm := hP.mem
  refine Gives.enter (n := 61) Tryd.func55 rfl Tryd.ntmps55 rfl (env := [(0, .int .i64 z), (1, .int .u64 (i : Int)), (2, .agg (bytesV a).toArray), (3, .agg (prfC P).toArray)]) rfl ?_
  refine WC.seq ?_
  refine WC.region ?_
  refine WL.ac rfl rfl rfl (Ac.box M0 rfl rfl) ?_; rintro v1 w1 ⟨ga, rfl, hg1, K1, M1⟩
  refine WL.ac rfl rfl rfl (Ac.box M1 rfl rfl) ?_; rintro v2 w2 ⟨gP, rfl, hg2, K2, M2⟩
  refine WL.ac rfl rfl rfl (Ac.alloc M2 (l := bytesV (List.replicate 32 0)) (by kernel_rfl)) ?_; rintro v3 w3 ⟨go, rfl, hg3, K3, M3⟩
  refine WL.ex rfl rfl rfl (Ex.asg rfl) ?_
  refine WL.nil ?_
  refine WX.next (?_)
  refine WC.seq ?_
  refine WC.block ?_
  refine WC.seq ?_
  refine WC.region ?_
  refine WL.ex rfl rfl rfl (Ex.mv rfl) ?_
  refine WL.ex rfl rfl rfl (Ex.lss rfl rfl) ?_
  refine WL.ex rfl rfl rfl (Ex.mv rfl) ?_
  by_cases h1 : z < 0
  · rw [decide_eq_true h1]
    have hcl := climb_1 (i := i) (a := a) (P := P) (.inl h1)
    refine WL.no rfl rfl rfl rfl rfl rfl ?_
    refine WL.no rfl rfl rfl rfl rfl rfl ?_
    refine WL.ex rfl rfl rfl (Ex.pickT rfl rfl) ?_
    refine WL.ex rfl rfl rfl (Ex.asg rfl) ?_
    refine WL.nil ?_
    refine WX.next (?_)
    refine WC.yes rfl ?_
    refine WC.seq ?_
    refine WC.region ?_
    refine WL.ex rfl rfl rfl (Ex.bld bd31 (parts := []) (l := bytesV (List.replicate 32 0)) rfl rfl rfl rfl) ?_
    refine WL.ac0 rfl rfl (Ac.stA M3 ty31 rfl rfl rfl (h32_len (by first | assumption | exact h32_0)) (bytesV_one _) (i := 0) rfl (by first | (rw [h32_len (by first | assumption | exact h32_0), h32_len (by first | assumption | exact h32_0)]; decide) | (rw [h32_len (by first | assumption | exact h32_0)]; decide) | rw [h32_len (by first | assumption | exact h32_0)])) ?_; rintro v11 w11 ⟨K11, M11⟩
    try dsimp only [List.set] at M11
    rw [splice_all _ _ (by first | rw [h32_len (by first | assumption | exact h32_0), h32_len (by first | assumption | exact h32_0)] | rw [h32_len (by first | assumption | exact h32_0)])] at M11
    refine WL.ex rfl rfl rfl (Ex.asg rfl) ?_
    refine WL.nil ?_
    refine WX.next (?_)
    refine WC.ret ?_
    refine WX.ret_block (WX.ret_then (?_))
    refine WX.retn rfl (.cell rfl (run_loadVarA ty31 (h32_len (by first | assumption | exact h32_0)) (M11.rdw (i := 0) rfl)) (.tmp rfl .nil)) rfl ?_
    rw [hcl]
    exact ⟨rfl, M11.keep⟩
  · rw [decide_eq_false h1]
    refine WL.yes rfl rfl rfl rfl ?_
    refine WL.ex rfl rfl rfl (Ex.mv rfl) ?_
    refine WL.yes rfl rfl rfl rfl ?_
    refine WL.ex rfl rfl rfl (Ex.gtr rfl rfl) ?_
    refine WL.ex rfl rfl rfl (Ex.pickF rfl rfl) ?_
    refine WL.ex rfl rfl rfl (Ex.asg rfl) ?_
    refine WL.nil ?_
    refine WX.next (?_)
    refine WC.cond_dec rfl (fun h2 => ?_) (fun h2 => ?_)
    · have hcl := climb_1 (i := i) (a := a) (P := P) (.inr h2)
      refine WC.seq ?_
      refine WC.region ?_
      refine WL.ex rfl rfl rfl (Ex.bld bd31 (parts := []) (l := bytesV (List.replicate 32 0)) rfl rfl rfl rfl) ?_
      refine WL.ac0 rfl rfl (Ac.stA M3 ty31 rfl rfl rfl (h32_len (by first | assumption | exact h32_0)) (bytesV_one _) (i := 0) rfl (by first | (rw [h32_len (by first | assumption | exact h32_0), h32_len (by first | assumption | exact h32_0)]; decide) | (rw [h32_len (by first | assumption | exact h32_0)]; decide) | rw [h32_len (by first | assumption | exact h32_0)])) ?_; rintro v18 w18 ⟨K18, M18⟩
      try dsimp only [List.set] at M18
      rw [splice_all _ _ (by first | rw [h32_len (by first | assumption | exact h32_0), h32_len (by first | assumption | exact h32_0)] | rw [h32_len (by first | assumption | exact h32_0)])] at M18
      refine WL.ex rfl rfl rfl (Ex.asg rfl) ?_
      refine WL.nil ?_
      refine WX.next (?_)
      refine WC.ret ?_
      refine WX.ret_block (WX.ret_then (?_))
      refine WX.retn rfl (.cell rfl (run_loadVarA ty31 (h32_len (by first | assumption | exact h32_0)) (M18.rdw (i := 0) rfl)) (.tmp rfl .nil)) rfl ?_
      rw [hcl]
      exact ⟨rfl, M18.keep⟩
    · obtain ⟨d, rfl⟩ := Int.eq_ofNat_of_zero_le (show 0 ≤ z by omega)
      have hd : d ≤ 32 := by omega
      refine WC.seq ?_
      refine WC.region ?_
      refine WL.ex rfl rfl rfl (Ex.mv rfl) ?_
      refine WL.ex rfl rfl rfl (Ex.mv rfl) ?_
      refine WL.ex rfl rfl rfl (Ex.shr rfl rfl (m := d) rfl (c := ((i / 2 ^ d : Nat) : Int)) (shrN _ _ _ (by simp [IntKind.bits]; omega))) ?_
      refine WL.ex rfl rfl rfl (Ex.neI rfl rfl) ?_
      refine WL.ex rfl rfl rfl (Ex.asg rfl) ?_
      refine WL.nil ?_
      refine WX.next (?_)
      refine WC.cond rfl (fun h3 => ?_) (fun h3 => ?_)
      · have h4 : i / 2 ^ d ≠ 0 := fun h6 => by rw [h6] at h3; simp at h3
        have hcl := climb_10 (a := a) (P := P) hd h4
        refine WC.seq ?_
        refine WC.region ?_
        refine WL.ex rfl rfl rfl (Ex.bld bd31 (parts := []) (l := bytesV (List.replicate 32 0)) rfl rfl rfl rfl) ?_
        refine WL.ac0 rfl rfl (Ac.stA M3 ty31 rfl rfl rfl (h32_len (by first | assumption | exact h32_0)) (bytesV_one _) (i := 0) rfl (by first | (rw [h32_len (by first | assumption | exact h32_0), h32_len (by first | assumption | exact h32_0)]; decide) | (rw [h32_len (by first | assumption | exact h32_0)]; decide) | rw [h32_len (by first | assumption | exact h32_0)])) ?_; rintro v26 w26 ⟨K26, M26⟩
        try dsimp only [List.set] at M26
        rw [splice_all _ _ (by first | rw [h32_len (by first | assumption | exact h32_0), h32_len (by first | assumption | exact h32_0)] | rw [h32_len (by first | assumption | exact h32_0)])] at M26
        refine WL.ex rfl rfl rfl (Ex.asg rfl) ?_
        refine WL.nil ?_
        refine WX.next (?_)
        refine WC.ret ?_
        refine WX.ret_block (WX.ret_then (?_))
        refine WX.retn rfl (.cell rfl (run_loadVarA ty31 (h32_len (by first | assumption | exact h32_0)) (M26.rdw (i := 0) rfl)) (.tmp rfl .nil)) rfl ?_
        rw [hcl]
        exact ⟨rfl, M26.keep⟩
      · have h4 : i / 2 ^ d = 0 := by
          have h6 : ((i / 2 ^ d : Nat) : Int) = 0 := (by simpa using h3)
          exact_mod_cast h6
        refine WC.skip ?_
        refine WX.normal_block (WX.next (?_))
        refine WC.seq ?_
        refine WC.seq ?_
        refine WC.region ?_
        refine WL.ex rfl rfl rfl (Ex.mv rfl) ?_
        refine WL.ex rfl rfl rfl (Ex.slAlE Tryd.underlying34 sz31 rfl rfl (Int.natCast_nonneg _) (by omega)) ?_
        rw [Int.toNat_natCast]
        obtain ⟨oP, hoP⟩ : ∃ oP, oP = (if 32 = d then 0 else 0 + d * 32) := ⟨_, rfl⟩
        rw [← hoP]
        refine WL.ex rfl rfl rfl (Ex.len Tryd.underlying39 rfl) ?_
        refine WL.ex rfl rfl rfl (Ex.mv rfl) ?_
        refine WL.nil ?_
        refine WX.next (?_)
        refine WC.block ?_
        refine WC.loop (σ := Nat) (fun k => [(0, .int .i64 (d : Int)), (1, .int .u64 (i : Int)), (6, .pointer (some ⟨ga, 0, none⟩)), (7, .pointer (some ⟨gP, 0, none⟩)), (8, .pointer (some ⟨go, 0, none⟩)), (29, .slice (some ⟨gP, oP, none⟩) (32 - d) (32 - d)), (30, .int .i64 ((32 - d : Nat) : Int)), (31, .int .i64 (k : Int))]) (fun k wr => k ≤ 32 - d ∧ (∀ j, j < k → P[d + j]? = some zH) ∧ Mem w wr nof [blk go (bytesV (List.replicate 32 0)) 31, blk gP (prfC (P)) 34, blk ga (bytesV a) 31]) (fun k => 32 - d - k) (0) ?_ (.cons rfl (.cons rfl (.cons rfl (.cons rfl (.cons rfl (.cons rfl (.cons rfl (.cons rfl (.nil))))))))) ?_
        · exact ⟨by omega, by simp, M3⟩
        rintro k w32 ⟨hk, hz0, M32⟩
        refine WC.seq ?_
        refine WC.region ?_
        refine WL.ex rfl rfl rfl (Ex.lss rfl rfl) ?_
        refine WL.nil ?_
        refine WX.next (?_)
        refine WC.seq ?_
        refine WC.cond_dec rfl (fun hc32 => ?_) (fun hc32 => ?_)
        · obtain ⟨x, hxk⟩ : ∃ x, P[d + k]? = some x := ⟨_, List.getElem?_eq_getElem (by omega)⟩
          have hxm := List.mem_of_getElem? hxk
          have hx32 : H32 x := hPm x hxm
          have hoP2 : oP = d * 32 := by rw [hoP, if_neg (by omega)]; omega
          refine WC.skip ?_
          refine WX.next (?_)
          refine WC.seq ?_
          refine WC.block ?_
          refine WC.seq ?_
          refine WC.region ?_
          refine WL.ex rfl rfl rfl (Ex.ia Tryd.underlying39 sz31 rfl rfl ⟨by omega, by omega⟩) ?_
          refine WL.ex rfl rfl rfl (Ex.loadA ty31 rfl (l := bytesV x) (h32_len hx32) (M32.rdt (i := 1) rfl (flat_at (i := d + k) (fun a ha => h32_len (hPm a ha)) hxk (by simp only [Int.toNat_natCast]; omega)))) ?_
          refine WL.ac rfl rfl rfl (Ac.alloc M32 (l := bytesV (List.replicate 32 0)) (by kernel_rfl)) ?_; rintro v36 w36 ⟨gx, rfl, hg36, K36, M36⟩
          refine WL.ac0 rfl rfl (Ac.stA M36 ty31 rfl rfl rfl (h32_len (by first | assumption | exact h32_0)) (bytesV_one _) (i := 0) rfl (by first | (rw [h32_len (by first | assumption | exact h32_0), h32_len (by first | assumption | exact h32_0)]; decide) | (rw [h32_len (by first | assumption | exact h32_0)]; decide) | rw [h32_len (by first | assumption | exact h32_0)])) ?_; rintro v37 w37 ⟨K37, M37⟩
          try dsimp only [List.set] at M37
          rw [splice_all _ _ (by first | rw [h32_len (by first | assumption | exact h32_0), h32_len (by first | assumption | exact h32_0)] | rw [h32_len (by first | assumption | exact h32_0)])] at M37
          refine WL.nil ?_
          refine WX.next (?_)
          refine WC.seq ?_
          refine WC.region ?_
          refine WL.ex rfl rfl rfl (Ex.loadA ty31 rfl (h32_len (by first | assumption | exact h32_0)) (M37.rdw (i := 0) rfl)) ?_
          refine WL.ex rfl rfl rfl (Ex.bld bd31 (parts := []) (l := bytesV (List.replicate 32 0)) rfl rfl rfl rfl) ?_
          refine WL.ex rfl rfl rfl (Ex.neA rfl rfl (eqHash w hx32 h32_0)) ?_
          refine WL.nil ?_
          refine WX.next (?_)
          refine WC.cond rfl (fun h5 => ?_) (fun h5 => ?_)
          · have hxn : x ≠ zH := fun h => by rw [decide_eq_true (show x = List.replicate 32 0 from h)] at h5; cases h5
            have hcl := climb_6 (a := a) hd h4 (List.mem_of_getElem? (by rw [List.getElem?_drop]; exact hxk)) hxn
            refine WC.seq ?_
            refine WC.region ?_
            refine WL.ex rfl rfl rfl (Ex.bld bd31 (parts := []) (l := bytesV (List.replicate 32 0)) rfl rfl rfl rfl) ?_
            refine WL.ac0 rfl rfl (Ac.stA M37 ty31 rfl rfl rfl (h32_len (by first | assumption | exact h32_0)) (bytesV_one _) (i := 1) rfl (by first | (rw [h32_len (by first | assumption | exact h32_0), h32_len (by first | assumption | exact h32_0)]; decide) | (rw [h32_len (by first | assumption | exact h32_0)]; decide) | rw [h32_len (by first | assumption | exact h32_0)])) ?_; rintro v42 w42 ⟨K42, M42⟩
            try dsimp only [List.set] at M42
            rw [splice_all _ _ (by first | rw [h32_len (by first | assumption | exact h32_0), h32_len (by first | assumption | exact h32_0)] | rw [h32_len (by first | assumption | exact h32_0)])] at M42
            refine WL.ex rfl rfl rfl (Ex.asg rfl) ?_
            refine WL.nil ?_
            refine WX.next (?_)
            refine WC.ret ?_
            refine WX.ret_block (WX.ret_then (WX.ret_then (WX.ret_block (WX.ret_then (?_)))))
            refine WX.retn rfl (.cell rfl (run_loadVarA ty31 (h32_len (by first | assumption | exact h32_0)) (M42.rdw (i := 1) rfl)) (.tmp rfl .nil)) rfl ?_
            rw [hcl]
            exact ⟨rfl, M42.keep⟩
          · have hxz : x = zH := Decidable.byContradiction fun h => by rw [decide_eq_false (show ¬ x = List.replicate 32 0 from h)] at h5; cases h5
            refine WC.skip ?_
            refine WX.normal_block (WX.next (?_))
            refine WC.region ?_
            refine WL.ex rfl rfl rfl (Ex.add rfl rfl (i64w _ (by omega) (by omega))) ?_
            refine WL.ex rfl rfl rfl (Ex.mv rfl) ?_
            refine WL.nil ?_
            refine WX.again (k + 1) ?_ ?_ (.cons rfl (.cons rfl (.cons rfl (.cons rfl (.cons rfl (.cons rfl (.cons rfl (.cons rfl (.nil)))))))))
            · (try dsimp only); omega
            · refine ⟨by omega, fun j hj => ?_, (Mem.sub M37 (.cons _ (.refl _)))⟩
              rcases Nat.lt_succ_iff_lt_or_eq.1 hj with h | h
              · exact hz0 j h
              · subst h; rw [hxk, hxz]
        · have hall : ∀ x ∈ P.drop d, x = zH := by
            intro x hx
            obtain ⟨j, hj⟩ := List.getElem?_of_mem hx
            rw [List.getElem?_drop] at hj
            have hjl := (List.getElem?_eq_some_iff.1 hj).1
            have := hz0 j (by omega)
            rw [hj] at this
            exact Option.some.inj this
          have hcl := climb_0 (a := a) hd h4 hall
          refine WC.exit ?_
          refine WX.exit_then (WX.exit_then (WX.exit_block (WX.next (?_))))
          refine WC.seq ?_
          refine WC.seq ?_
          refine WC.region ?_
          refine WL.ex rfl rfl rfl (Ex.mv rfl) ?_
          refine WL.ex rfl rfl rfl (Ex.slAh Tryd.underlying34 sz31 rfl rfl (Int.natCast_nonneg _) (by omega)) ?_
          rw [Int.toNat_natCast]
          refine WL.ex rfl rfl rfl (Ex.len Tryd.underlying39 rfl) ?_
          refine WL.ex rfl rfl rfl (Ex.mv rfl) ?_
          refine WL.nil ?_
          refine WX.next (?_)
          refine WC.block ?_
          refine WC.loop (σ := Nat) (fun k => [(1, .int .u64 (i : Int)), (6, .pointer (some ⟨ga, 0, none⟩)), (8, .pointer (some ⟨go, 0, none⟩)), (41, .slice (some ⟨gP, 0, none⟩) d 32), (42, .int .i64 (d : Int)), (43, .int .i64 (k : Int))]) (fun k wr => k ≤ d ∧ Mem w wr nof [blk go (bytesV (List.replicate 32 0)) 31, blk gP (prfC (P)) 34, blk ga (bytesV (clB P i a k)) 31]) (fun k => d - k) (0) ?_ (.cons rfl (.cons rfl (.cons rfl (.cons rfl (.cons rfl (.cons rfl (.nil))))))) ?_
          · exact ⟨by omega, M32⟩
          rintro k w50 ⟨hk, M50⟩
          refine WC.seq ?_
          refine WC.region ?_
          refine WL.ex rfl rfl rfl (Ex.lss rfl rfl) ?_
          refine WL.nil ?_
          refine WX.next (?_)
          refine WC.seq ?_
          refine WC.cond_dec rfl (fun hc44 => ?_) (fun hc44 => ?_)
          · obtain ⟨x, hxk⟩ : ∃ x, P[k]? = some x := ⟨_, List.getElem?_eq_getElem (by omega)⟩
            have hx32 : H32 x := hPm x (List.mem_of_getElem? hxk)
            have hc32 := clB32 (P := P) (i := i) ha k
            have hgx : P.getD k [] = x := by rw [List.getD, hxk]; rfl
            have hdv := Nat.div_le_self i (2 ^ k)
            refine WC.skip ?_
            refine WX.next (?_)
            refine WC.seq ?_
            refine WC.block ?_
            refine WC.seq ?_
            refine WC.region ?_
            refine WL.ex rfl rfl rfl (Ex.mv rfl) ?_
            refine WL.ex rfl rfl rfl (Ex.ia Tryd.underlying39 sz31 rfl rfl ⟨by omega, by omega⟩) ?_
            refine WL.ex rfl rfl rfl (Ex.loadA ty31 rfl (l := bytesV x) (h32_len hx32) (M50.rdt (i := 1) rfl (flat_at (i := k) (fun a ha => h32_len (hPm a ha)) hxk (by simp)))) ?_
            refine WL.ac rfl rfl rfl (Ac.alloc M50 (l := bytesV (List.replicate 32 0)) (by kernel_rfl)) ?_; rintro v55 w55 ⟨gy, rfl, hg55, K55, M55⟩
            refine WL.ex rfl rfl rfl (Ex.asg rfl) ?_
            refine WL.ac0 rfl rfl (Ac.stA M55 ty31 rfl rfl rfl (h32_len (by first | assumption | exact h32_0)) (bytesV_one _) (i := 0) rfl (by first | (rw [h32_len (by first | assumption | exact h32_0), h32_len (by first | assumption | exact h32_0)]; decide) | (rw [h32_len (by first | assumption | exact h32_0)]; decide) | rw [h32_len (by first | assumption | exact h32_0)])) ?_; rintro v57 w57 ⟨K57, M57⟩
            try dsimp only [List.set] at M57
            rw [splice_all _ _ (by first | rw [h32_len (by first | assumption | exact h32_0), h32_len (by first | assumption | exact h32_0)] | rw [h32_len (by first | assumption | exact h32_0)])] at M57
            refine WL.nil ?_
            refine WX.next (?_)
            refine WC.seq ?_
            refine WC.region ?_
            refine WL.ex rfl rfl rfl (Ex.mv rfl) ?_
            refine WL.ex rfl rfl rfl (Ex.mv rfl) ?_
            refine WL.ex rfl rfl rfl (Ex.shr rfl rfl (m := k) rfl (c := ((i / 2 ^ k : Nat) : Int)) (shrN _ _ _ (by simp [IntKind.bits]; omega))) ?_
            refine WL.ex rfl rfl rfl (Ex.rem rfl rfl (by decide) (c := ((i / 2 ^ k % 2 : Nat) : Int)) (tmodT _ 2)) ?_
            refine WL.ex rfl rfl rfl (Ex.eqI rfl rfl) ?_
            refine WL.nil ?_
            refine WX.next (?_)
            refine WC.cond_dec rfl (fun h52 => ?_) (fun h52 => ?_)
            · have h53 : i / 2 ^ k % 2 = 0 := by exact_mod_cast h52
              have hcs : clB P i a (k + 1) = dNode (clB P i a k) x := by rw [clB, if_pos h53, hgx]
              have hs32 := dNode_len (clB P i a k) x
              refine WC.region ?_
              refine WL.ex rfl rfl rfl (Ex.loadA ty31 rfl (h32_len (by first | assumption | exact h32_0)) (M57.rdw (i := 3) rfl)) ?_
              refine WL.ex rfl rfl rfl (Ex.loadA ty31 rfl (h32_len (by first | assumption | exact h32_0)) (M57.rdw (i := 0) rfl)) ?_
              refine WL.ac rfl rfl rfl (Ac.call rfl Tryd.func74 nm74 rfl (node_ok w57 _ _ hc32 hx32 (hT.keep M57.keep))) ?_; rintro v65 w65 ⟨rfl, K65⟩
              have M65 := M57.step K65
              refine WL.ac0 rfl rfl (Ac.stA M65 ty31 rfl rfl rfl (h32_len (by first | assumption | exact h32_0)) (bytesV_one _) (i := 3) rfl (by first | (rw [h32_len (by first | assumption | exact h32_0), h32_len (by first | assumption | exact h32_0)]; decide) | (rw [h32_len (by first | assumption | exact h32_0)]; decide) | rw [h32_len (by first | assumption | exact h32_0)])) ?_; rintro v66 w66 ⟨K66, M66⟩
              try dsimp only [List.set] at M66
              rw [splice_all _ _ (by first | rw [h32_len (by first | assumption | exact h32_0), h32_len (by first | assumption | exact h32_0)] | rw [h32_len (by first | assumption | exact h32_0)])] at M66
              refine WL.nil ?_
              refine WX.normal_block (WX.next (?_))
              refine WC.region ?_
              refine WL.ex rfl rfl rfl (Ex.add rfl rfl (i64w _ (by omega) (by omega))) ?_
              refine WL.ex rfl rfl rfl (Ex.mv rfl) ?_
              refine WL.nil ?_
              refine WX.again (k + 1) ?_ ?_ (.cons rfl (.cons rfl (.cons rfl (.cons rfl (.cons rfl (.cons rfl (.nil)))))))
              · (try dsimp only); omega
              · refine ⟨by omega, ?_⟩
                rw [hcs]
                exact (Mem.sub M66 (.cons _ (.refl _)))
            · have h53 : ¬ i / 2 ^ k % 2 = 0 := fun h => h52 (by exact_mod_cast h)
              have hcs : clB P i a (k + 1) = dNode x (clB P i a k) := by rw [clB, if_neg h53, hgx]
              have hs32 := dNode_len x (clB P i a k)
              refine WC.region ?_
              refine WL.ex rfl rfl rfl (Ex.loadA ty31 rfl (h32_len (by first | assumption | exact h32_0)) (M57.rdw (i := 0) rfl)) ?_
              refine WL.ex rfl rfl rfl (Ex.loadA ty31 rfl (h32_len (by first | assumption | exact h32_0)) (M57.rdw (i := 3) rfl)) ?_
              refine WL.ac rfl rfl rfl (Ac.call rfl Tryd.func74 nm74 rfl (node_ok w57 _ _ hx32 hc32 (hT.keep M57.keep))) ?_; rintro v71 w71 ⟨rfl, K71⟩
              have M71 := M57.step K71
              refine WL.ac0 rfl rfl (Ac.stA M71 ty31 rfl rfl rfl (h32_len (by first | assumption | exact h32_0)) (bytesV_one _) (i := 3) rfl (by first | (rw [h32_len (by first | assumption | exact h32_0), h32_len (by first | assumption | exact h32_0)]; decide) | (rw [h32_len (by first | assumption | exact h32_0)]; decide) | rw [h32_len (by first | assumption | exact h32_0)])) ?_; rintro v72 w72 ⟨K72, M72⟩
              try dsimp only [List.set] at M72
              rw [splice_all _ _ (by first | rw [h32_len (by first | assumption | exact h32_0), h32_len (by first | assumption | exact h32_0)] | rw [h32_len (by first | assumption | exact h32_0)])] at M72
              refine WL.nil ?_
              refine WX.normal_block (WX.next (?_))
              refine WC.region ?_
              refine WL.ex rfl rfl rfl (Ex.add rfl rfl (i64w _ (by omega) (by omega))) ?_
              refine WL.ex rfl rfl rfl (Ex.mv rfl) ?_
              refine WL.nil ?_
              refine WX.again (k + 1) ?_ ?_ (.cons rfl (.cons rfl (.cons rfl (.cons rfl (.cons rfl (.cons rfl (.nil)))))))
              · (try dsimp only); omega
              · refine ⟨by omega, ?_⟩
                rw [hcs]
                exact (Mem.sub M72 (.cons _ (.refl _)))
          · obtain rfl : d = k := by omega
            have hc32 := clB32 (P := P) (i := i) ha d
            refine WC.exit ?_
            refine WX.exit_then (WX.exit_then (WX.exit_block (WX.next (?_))))
            refine WC.seq ?_
            refine WC.region ?_
            refine WL.ex rfl rfl rfl (Ex.loadA ty31 rfl (h32_len (by first | assumption | exact h32_0)) (M50.rdw (i := 2) rfl)) ?_
            refine WL.ac0 rfl rfl (Ac.stA M50 ty31 rfl rfl rfl (h32_len (by first | assumption | exact h32_0)) (bytesV_one _) (i := 0) rfl (by first | (rw [h32_len (by first | assumption | exact h32_0), h32_len (by first | assumption | exact h32_0)]; decide) | (rw [h32_len (by first | assumption | exact h32_0)]; decide) | rw [h32_len (by first | assumption | exact h32_0)])) ?_; rintro v76 w76 ⟨K76, M76⟩
            try dsimp only [List.set] at M76
            rw [splice_all _ _ (by first | rw [h32_len (by first | assumption | exact h32_0), h32_len (by first | assumption | exact h32_0)] | rw [h32_len (by first | assumption | exact h32_0)])] at M76
            refine WL.ex rfl rfl rfl (Ex.asg rfl) ?_
            refine WL.nil ?_
            refine WX.next (?_)
            refine WC.ret ?_
            refine WX.retn rfl (.cell rfl (run_loadVarA ty31 (h32_len (by first | assumption | exact h32_0)) (M76.rdw (i := 0) rfl)) (.tmp rfl .nil)) rfl ?_
            rw [hcl]
            exact ⟨rfl, M76.keep⟩

theorem climb_32 {z : Int} {i : Nat} {a : List UInt8} {P : Hs} (ha : H32 a) : H32 (climbR z i a P).1 := by
  unfold climbR
  split
  · exact h32_0
  · split
    · exact h32_0
    · split
      · exact clB32 ha _
      · exact h32_0
/-- What is told of a check. -/
def checkR (z : Int) (r : List UInt8) (n i : Nat) (a : List UInt8) (P : Hs) : Int :=
  if (climbR z i a P).2 ≠ 0 then (climbR z i a P).2 else if n ≤ i then 10 else if (climbR z i a P).1 ≠ r then 14 else 0

/- sponsion/proof.Check -/
theorem check_ok (w : World) (z : Int) (r : List UInt8) (n i : Nat) (a : List UInt8) (P : Hs) (hr : H32 r) (hi : i < 18446744073709551616) (ha : H32 a) (hP : PrfOk P) (hT : Tabs w) :
    Gives Tryd.prog 26 #[.int .i64 z, .agg (bytesV r).toArray, .int .u64 (n : Int), .int .u64 (i : Int), .agg (bytesV a).toArray, .agg (prfC P).toArray] w fun u w1 => u = .int .i64 (checkR z r n i a P) ∧ Keep nof w w1 := by
  have M0 := Mem.start w nof
  have hc32 := climb_32 (z := z) (i := i) (P := P) ha
  refine Gives.enter (n := 35) Tryd.func26 rfl Tryd.ntmps26 rfl (env := [(0, .int .i64 z), (1, .agg (bytesV r).toArray), (2, .int .u64 (n : Int)), (3, .int .u64 (i : Int)), (4, .agg (bytesV a).toArray), (5, .agg (prfC P).toArray)]) rfl ?_
  refine WC.seq ?_
  refine WC.region ?_
  refine WL.ac rfl rfl rfl (Ac.box M0 rfl rfl) ?_; rintro v1 w1 ⟨gr, rfl, hg1, K1, M1⟩
  refine WL.ac rfl rfl rfl (Ac.box M1 rfl rfl) ?_; rintro v2 w2 ⟨ga, rfl, hg2, K2, M2⟩
  refine WL.ac rfl rfl rfl (Ac.box M2 rfl rfl) ?_; rintro v3 w3 ⟨gP, rfl, hg3, K3, M3⟩
  refine WL.ex rfl rfl rfl (Ex.asg rfl) ?_
  refine WL.nil ?_
  refine WX.next (?_)
  refine WC.seq ?_
  refine WC.region ?_
  refine WL.ex rfl rfl rfl (Ex.mv rfl) ?_
  refine WL.ex rfl rfl rfl (Ex.mv rfl) ?_
  refine WL.ex rfl rfl rfl (Ex.loadA ty31 rfl (h32_len (by first | assumption | exact h32_0)) (M3.rdw (i := 1) rfl)) ?_
  refine WL.ex rfl rfl rfl (Ex.loadA ty34 rfl (prf_len (by first | assumption | exact prf0_ok)) (M3.rdw (i := 0) rfl)) ?_
  refine WL.ac rfl rfl rfl (Ac.call rfl Tryd.func55 nm55 rfl (climb_ok w3 z i a P hi ha hP (hT.keep M3.keep))) ?_; rintro v9 w9 ⟨rfl, K9⟩
  have M9 := M3.step K9
  refine WL.ex rfl rfl rfl (Ex.mv rfl) ?_
  refine WL.ex rfl rfl rfl (Ex.ext rfl rfl) ?_
  refine WL.ex rfl rfl rfl (Ex.ext rfl rfl) ?_
  refine WL.ac rfl rfl rfl (Ac.alloc M9 (l := bytesV (List.replicate 32 0)) (by kernel_rfl)) ?_; rintro v13 w13 ⟨gh, rfl, hg13, K13, M13⟩
  refine WL.ac0 rfl rfl (Ac.stA M13 ty31 rfl rfl rfl (h32_len (by first | assumption | exact h32_0)) (bytesV_one _) (i := 0) rfl (by first | (rw [h32_len (by first | assumption | exact h32_0), h32_len (by first | assumption | exact h32_0)]; decide) | (rw [h32_len (by first | assumption | exact h32_0)]; decide) | rw [h32_len (by first | assumption | exact h32_0)])) ?_; rintro v14 w14 ⟨K14, M14⟩
  try dsimp only [List.set] at M14
  rw [splice_all _ _ (by first | rw [h32_len (by first | assumption | exact h32_0), h32_len (by first | assumption | exact h32_0)] | rw [h32_len (by first | assumption | exact h32_0)])] at M14
  refine WL.ex rfl rfl rfl (Ex.asg rfl) ?_
  refine WL.nil ?_
  refine WX.next (?_)
  refine WC.seq ?_
  refine WC.block ?_
  refine WC.seq ?_
  refine WC.region ?_
  refine WL.ex rfl rfl rfl (Ex.mv rfl) ?_
  refine WL.ex rfl rfl rfl (Ex.neI rfl rfl) ?_
  rw [show (!decide ((climbR z i a P).2 = 0)) = decide ((climbR z i a P).2 ≠ 0) by simp]
  refine WL.ex rfl rfl rfl (Ex.asg rfl) ?_
  refine WL.nil ?_
  refine WX.next (?_)
  refine WC.cond_dec rfl (fun h23 => ?_) (fun h23 => ?_)
  · have hck : checkR z r n i a P = (climbR z i a P).2 := if_pos h23
    refine WC.seq ?_
    refine WC.region ?_
    refine WL.ex rfl rfl rfl (Ex.mv rfl) ?_
    refine WL.ex rfl rfl rfl (Ex.asg rfl) ?_
    refine WL.nil ?_
    refine WX.next (?_)
    refine WC.ret ?_
    refine WX.ret_block (WX.ret_then (?_))
    refine WX.ret1 rfl rfl ?_
    rw [hck]
    exact ⟨rfl, M14.keep⟩
  · skip
    refine WC.seq ?_
    refine WC.region ?_
    refine WL.ex rfl rfl rfl (Ex.mv rfl) ?_
    refine WL.ex rfl rfl rfl (Ex.mv rfl) ?_
    refine WL.ex rfl rfl rfl (Ex.geq rfl rfl) ?_
    refine WL.ex rfl rfl rfl (Ex.asg rfl) ?_
    refine WL.nil ?_
    refine WX.next (?_)
    refine WC.cond_dec rfl (fun h27 => ?_) (fun h27 => ?_)
    · have hck : checkR z r n i a P = 10 := by unfold checkR; rw [if_neg h23, if_pos (by omega)]
      refine WC.seq ?_
      refine WC.region ?_
      refine WL.ex rfl rfl rfl (Ex.asg rfl) ?_
      refine WL.nil ?_
      refine WX.next (?_)
      refine WC.ret ?_
      refine WX.ret_block (WX.ret_then (?_))
      refine WX.ret1 rfl rfl ?_
      rw [hck]
      exact ⟨rfl, M14.keep⟩
    · have h28 : ¬ n ≤ i := by omega
      refine WC.seq ?_
      refine WC.region ?_
      refine WL.ex rfl rfl rfl (Ex.loadA ty31 rfl (h32_len (by first | assumption | exact h32_0)) (M14.rdw (i := 0) rfl)) ?_
      refine WL.ex rfl rfl rfl (Ex.loadA ty31 rfl (h32_len (by first | assumption | exact h32_0)) (M14.rdw (i := 3) rfl)) ?_
      refine WL.ex rfl rfl rfl (Ex.neA rfl rfl (eqHash w hc32 hr)) ?_
      refine WL.ex rfl rfl rfl (Ex.asg rfl) ?_
      refine WL.nil ?_
      refine WX.next (?_)
      refine WC.cond rfl (fun h31 => ?_) (fun h31 => ?_)
      · have hck : checkR z r n i a P = 14 := by
          unfold checkR
          rw [if_neg h23, if_neg h28, if_pos (fun h => by rw [decide_eq_true h] at h31; cases h31)]
        refine WC.seq ?_
        refine WC.region ?_
        refine WL.ex rfl rfl rfl (Ex.asg rfl) ?_
        refine WL.nil ?_
        refine WX.next (?_)
        refine WC.ret ?_
        refine WX.ret_block (WX.ret_then (?_))
        refine WX.ret1 rfl rfl ?_
        rw [hck]
        exact ⟨rfl, M14.keep⟩
      · have hck : checkR z r n i a P = 0 := by
          unfold checkR
          rw [if_neg h23, if_neg h28, if_neg (fun h => by rw [decide_eq_false h] at h31; cases h31)]
        refine WC.skip ?_
        refine WX.normal_block (WX.next (?_))
        refine WC.seq ?_
        refine WC.region ?_
        refine WL.ex rfl rfl rfl (Ex.asg rfl) ?_
        refine WL.nil ?_
        refine WX.next (?_)
        refine WC.ret ?_
        refine WX.ret1 rfl rfl ?_
        rw [hck]
        exact ⟨rfl, M14.keep⟩

end Go.Proofs.YtchmjpdkonfifaaDoor
