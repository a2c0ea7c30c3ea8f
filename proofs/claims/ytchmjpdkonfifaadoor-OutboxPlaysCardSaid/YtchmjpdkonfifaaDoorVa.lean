/- Walks, written by gen.py off the translation's own print: each says what the Go function comes to. -/
import Derived.Test.YtchmjpdkonfifaaDoorHa
import Derived.Test.YtchmjpdkonfifaaDoorTa
set_option linter.unusedVariables false
set_option linter.unusedSimpArgs false
namespace Go.Proofs.YtchmjpdkonfifaaDoor
open Go.Sx Go.RowKit
attribute [local irreducible] Ac Ex WL WC WX WP Gives sha

/-- The document's node, of a level. -/
def RN (k : Nat) : Prop := ∀ (w : World) (A : Option Addr) (c : Nat) (ls : Hs) (p : Nat), Rd w A (fl ls) → (∀ a ∈ ls, H32 a) → ls.length ≤ 4294967296 → k ≤ 32 → (p + 1) * 2 ^ k ≤ 4294967296 → TabR w →
  Gives Tryd.prog 44 #[.agg (empC (empTo 33)).toArray, .slice A ls.length c, .int .i64 (k : Int), .int .u64 (p : Int)] w fun u w1 => u = .agg (bytesV (nd dNode e0 ls k p)).toArray ∧ Keep nof w w1
theorem u64dbl {x : Nat} (h : x ≤ 4294967296) : IntKind.u64.wrap (2 * (x : Int)) = ((2 * x : Nat) : Int) := by
  rw [show (2 * (x : Int)) = ((2 * x : Nat) : Int) by omega]
  exact u64w_lt _ (by omega)
def places (d : Nat) (z : Int) : Nat := if 0 ≤ z ∧ z ≤ (d : Int) then 2 ^ (d - z.toNat) else 0

/- sponsion/sponsionref10.node -/
theorem rnode_step (k : Nat) (ih : ∀ j, j < k → RN j) (w : World) (A : Option Addr) (c : Nat) (ls : Hs) (p : Nat) (hr : Rd w A (fl ls)) (hls32 : ∀ a ∈ ls, H32 a) (hlen : ls.length ≤ 4294967296) (hk : k ≤ 32) (hp : (p + 1) * 2 ^ k ≤ 4294967296) (hR : TabR w) :
    Gives Tryd.prog 44 #[.agg (empC (empTo 33)).toArray, .slice A ls.length c, .int .i64 (k : Int), .int .u64 (p : Int)] w fun u w1 => u = .agg (bytesV (nd dNode e0 ls k p)).toArray ∧ Keep nof w w1 := by
  have M0 := Mem.start w nof
  have he33 := empTo_ok 33
  have hek := emptyH_len k
  have hpk : p * 2 ^ k ≤ 4294967296 := Nat.le_trans (Nat.mul_le_mul_right _ (Nat.le_succ p)) hp
  have hp1 : p ≤ 4294967296 := Nat.le_trans (Nat.le_mul_of_pos_right p (Nat.pow_pos (show 0 < 2 by decide))) hpk
  have hr32 := nd32 hls32 k p
  refine Gives.enter (n := 47) Tryd.func44 rfl Tryd.ntmps44 rfl (env := [(0, .agg (empC (empTo 33)).toArray), (1, .slice A ls.length c), (2, .int .i64 (k : Int)), (3, .int .u64 (p : Int))]) rfl ?_
  refine WC.seq ?_
  refine WC.region ?_
  refine WL.ac rfl rfl rfl (Ac.box M0 rfl rfl) ?_; rintro v1 w1 ⟨ges, rfl, hg1, K1, M1⟩
  refine WL.ac rfl rfl rfl (Ac.alloc M1 (l := bytesV (List.replicate 32 0)) (by kernel_rfl)) ?_; rintro v2 w2 ⟨go, rfl, hg2, K2, M2⟩
  refine WL.nil ?_
  refine WX.next (?_)
  refine WC.seq ?_
  refine WC.region ?_
  refine WL.ex rfl rfl rfl (Ex.mv rfl) ?_
  refine WL.ex rfl rfl rfl (Ex.asg rfl) ?_
  refine WL.nil ?_
  refine WX.next (?_)
  refine WC.seq ?_
  refine WC.seq ?_
  refine WC.region ?_
  refine WL.ex rfl rfl rfl (Ex.mv rfl) ?_
  refine WL.ex rfl rfl rfl (Ex.mv rfl) ?_
  refine WL.nil ?_
  refine WX.next (?_)
  refine WC.block ?_
  refine WC.loop (σ := Nat × Nat) (fun s => [(1, .slice A ls.length c), (2, .int .i64 (k : Int)), (3, .int .u64 (p : Int)), (4, .pointer (some ⟨ges, 0, none⟩)), (8, .pointer (some ⟨go, 0, none⟩)), (9, .int .u64 (s.2 : Int)), (11, .int .i64 (k : Int)), (12, .int .i64 (s.1 : Int))]) (fun s wr => s.1 ≤ k ∧ s.2 = p * 2 ^ s.1 ∧ Mem w wr nof [blk go (bytesV (List.replicate 32 0)) 31, blk ges (empC (empTo 33)) 98]) (fun s => k - s.1) (((0, p) : Nat × Nat)) ?_ (.cons rfl (.cons rfl (.cons rfl (.cons rfl (.cons rfl (.cons rfl (.cons rfl (.cons rfl (.nil))))))))) ?_
  · exact ⟨by simp, by simp, M2⟩
  rintro ⟨i, q⟩ w7 ⟨hi, hq, M7⟩
  dsimp only at hi hq M7
  refine WC.sub (env' := [(1, .slice A ls.length c), (2, .int .i64 (k : Int)), (3, .int .u64 (p : Int)), (4, .pointer (some ⟨ges, 0, none⟩)), (8, .pointer (some ⟨go, 0, none⟩)), (9, .int .u64 (q : Int)), (11, .int .i64 (k : Int)), (12, .int .i64 (i : Int))]) (.cons rfl (.cons rfl (.cons rfl (.cons rfl (.cons rfl (.cons rfl (.cons rfl (.cons rfl (.nil))))))))) ?_
  refine WC.seq ?_
  refine WC.region ?_
  refine WL.ex rfl rfl rfl (Ex.lss rfl rfl) ?_
  refine WL.nil ?_
  refine WX.next (?_)
  refine WC.seq ?_
  refine WC.cond_dec rfl (fun hc13 => ?_) (fun hc13 => ?_)
  · have hpi : p * 2 ^ i ≤ 4294967296 := Nat.le_trans (Nat.mul_le_mul_left _ (Nat.pow_le_pow_right (by decide) hi)) hpk
    have hdb : p * 2 ^ (i + 1) = 2 * (p * 2 ^ i) := by rw [Nat.pow_succ, ← Nat.mul_assoc, Nat.mul_comm]
    rw [← hq] at hpi
    refine WC.skip ?_
    refine WX.next (?_)
    refine WC.seq ?_
    refine WC.block ?_
    refine WC.region ?_
    refine WL.ex rfl rfl rfl (Ex.mv rfl) ?_
    refine WL.ex rfl rfl rfl (Ex.mul rfl rfl (c := ((2 * q : Nat) : Int)) (u64dbl hpi)) ?_
    refine WL.ex rfl rfl rfl (Ex.asg rfl) ?_
    refine WL.nil ?_
    refine WX.normal_block (WX.next (?_))
    refine WC.region ?_
    refine WL.ex rfl rfl rfl (Ex.add rfl rfl (i64w _ (by omega) (by omega))) ?_
    refine WL.ex rfl rfl rfl (Ex.mv rfl) ?_
    refine WL.nil ?_
    refine WX.again (((i + 1, 2 * q) : Nat × Nat)) ?_ ?_ (.cons rfl (.cons rfl (.cons rfl (.cons rfl (.cons rfl (.cons rfl (.cons rfl (.cons rfl (.nil)))))))))
    · dsimp only; omega
    · exact ⟨by dsimp only; omega, by dsimp only; rw [hdb, hq], M7⟩
  · obtain rfl : k = i := by omega
    subst hq
    refine WC.exit ?_
    refine WX.exit_then (WX.exit_then (WX.exit_block (WX.next (?_))))
    refine WC.seq ?_
    refine WC.seq ?_
    refine WC.region ?_
    refine WL.ex rfl rfl rfl (Ex.mv rfl) ?_
    refine WL.ex rfl rfl rfl (Ex.mv rfl) ?_
    refine WL.ex rfl rfl rfl (Ex.len Tryd.underlying39 rfl) ?_
    refine WL.ex rfl rfl rfl (Ex.cvI Tryd.underlying3 Tryd.underlying23 rfl (u64w_lt _ (by omega))) ?_
    refine WL.ex rfl rfl rfl (Ex.geq rfl rfl) ?_
    refine WL.nil ?_
    refine WX.next (?_)
    refine WC.cond_dec rfl (fun h21 => ?_) (fun h21 => ?_)
    · have hnd : nd dNode e0 ls k p = emptyH k := by rw [nd_emp k p (by omega), emptyH_emp]
      refine WC.seq ?_
      refine WC.region ?_
      refine WL.ex rfl rfl rfl (Ex.mv rfl) ?_
      refine WL.ex rfl rfl rfl (Ex.iaA Tryd.underlying98 sz31 rfl rfl ⟨by omega, by omega⟩) ?_
      refine WL.ex rfl rfl rfl (Ex.loadA ty31 rfl (l := bytesV (emptyH k)) (h32_len (emptyH_len k)) (M7.rdt (i := 1) rfl (flat_at (fun a ha => h32_len ((empTo_ok 33).mem a ha)) (empTo_get (k := 33) (i := k) (by omega) (by omega)) (by simp)))) ?_
      refine WL.ac0 rfl rfl (Ac.stA M7 ty31 rfl rfl rfl (h32_len (by first | assumption | exact h32_0)) (bytesV_one _) (i := 0) rfl (by first | (rw [h32_len (by first | assumption | exact h32_0), h32_len (by first | assumption | exact h32_0)]; decide) | (rw [h32_len (by first | assumption | exact h32_0)]; decide) | rw [h32_len (by first | assumption | exact h32_0)])) ?_; rintro v22 w22 ⟨K22, M22⟩
      try dsimp only [List.set] at M22
      rw [splice_all _ _ (by first | rw [h32_len (by first | assumption | exact h32_0), h32_len (by first | assumption | exact h32_0)] | rw [h32_len (by first | assumption | exact h32_0)])] at M22
      refine WL.nil ?_
      refine WX.next (?_)
      refine WC.ret ?_
      refine WX.ret_then (?_)
      refine WX.retc rfl rfl (run_loadVarA ty31 (h32_len (by first | assumption | exact h32_0)) (M22.rdw (i := 0) rfl)) ?_
      rw [hnd]
      exact ⟨rfl, M22.keep⟩
    · skip
      refine WC.skip ?_
      refine WX.next (?_)
      refine WC.seq ?_
      refine WC.seq ?_
      refine WC.region ?_
      refine WL.ex rfl rfl rfl (Ex.mv rfl) ?_
      refine WL.ex rfl rfl rfl (Ex.eqI rfl rfl) ?_
      refine WL.nil ?_
      refine WX.next (?_)
      refine WC.cond_dec rfl (fun h26 => ?_) (fun h26 => ?_)
      · have hk0 : k = 0 := by omega
        subst hk0
        simp only [Nat.pow_zero, Nat.mul_one] at h21
        obtain ⟨a, hai⟩ : ∃ a, ls[p]? = some a := ⟨_, List.getElem?_eq_getElem (by omega)⟩
        have ha32 := hls32 a (List.mem_of_getElem? hai)
        have hnd : nd dNode e0 ls 0 p = a := by simp only [nd, List.getD]; rw [hai]; rfl
        obtain ⟨b1, o1, hA1, _⟩ := hr.plain (by rw [fl_len hls32]; omega)
        subst hA1
        refine WC.seq ?_
        refine WC.region ?_
        refine WL.ex rfl rfl rfl (Ex.mv rfl) ?_
        refine WL.ex rfl rfl rfl (Ex.mv rfl) ?_
        refine WL.ex rfl rfl rfl (Ex.ia Tryd.underlying39 sz31 rfl rfl ⟨by omega, by omega⟩) ?_
        refine WL.ex rfl rfl rfl (Ex.loadA ty31 rfl (l := bytesV a) (by simpa using ha32) (fl_at (hr.keep0 M7.keep) hls32 hai (by simp))) ?_
        refine WL.ac0 rfl rfl (Ac.stA M7 ty31 rfl rfl rfl (h32_len (by first | assumption | exact h32_0)) (bytesV_one _) (i := 0) rfl (by first | (rw [h32_len (by first | assumption | exact h32_0), h32_len (by first | assumption | exact h32_0)]; decide) | (rw [h32_len (by first | assumption | exact h32_0)]; decide) | rw [h32_len (by first | assumption | exact h32_0)])) ?_; rintro v29 w29 ⟨K29, M29⟩
        try dsimp only [List.set] at M29
        rw [splice_all _ _ (by first | rw [h32_len (by first | assumption | exact h32_0), h32_len (by first | assumption | exact h32_0)] | rw [h32_len (by first | assumption | exact h32_0)])] at M29
        refine WL.nil ?_
        refine WX.next (?_)
        refine WC.ret ?_
        refine WX.ret_then (?_)
        refine WX.retc rfl rfl (run_loadVarA ty31 (h32_len (by first | assumption | exact h32_0)) (M29.rdw (i := 0) rfl)) ?_
        rw [hnd]
        exact ⟨rfl, M29.keep⟩
      · obtain ⟨j, hj⟩ : ∃ j, k = j + 1 := ⟨k - 1, by omega⟩
        subst hj
        have hdn : (2 * p + 1 + 1) * 2 ^ j = (p + 1) * 2 ^ (j + 1) := by rw [Nat.pow_succ, Nat.mul_comm (2 ^ j) 2, ← Nat.mul_assoc]; congr 1; omega
        have hdn2 : (2 * p + 1) * 2 ^ j ≤ (2 * p + 1 + 1) * 2 ^ j := Nat.mul_le_mul_right _ (by omega)
        have hx32 := nd32 hls32 j (2 * p)
        have hy32 := nd32 hls32 j (2 * p + 1)
        have hnd : nd dNode e0 ls (j + 1) p = dNode (nd dNode e0 ls j (2 * p)) (nd dNode e0 ls j (2 * p + 1)) := rfl
        have hz32 := dNode_len (nd dNode e0 ls j (2 * p)) (nd dNode e0 ls j (2 * p + 1))
        refine WC.skip ?_
        refine WX.next (?_)
        refine WC.seq ?_
        refine WC.draw (Keep nof w7.drew) [16] (.one 1 0 (.one 2 0 (.one 3 0 (.one 4 0 (.one 5 0 (.one 8 0 (.one 9 0 (.one 10 0 (.one 11 0 (.one 12 0 (.one 13 0 (.one 0 1 (.one 7 1 (.one 6 2 (.one 14 2 (.one 15 2 (.one 16 2 .nil))))))))))))))))) mixed (by kernel_rfl) (by kernel_rfl) (by kernel_rfl) (HQ.then_ HQ.body) ?_
        obtain ⟨w30, hw30⟩ : ∃ v, v = w7.drew := ⟨_, rfl⟩
        have D30 : Keep nof w7 w30 := by rw [hw30]; exact Keep.drew _ _
        have M30 := M7.step D30
        rw [← hw30]; clear hw30
        refine WP.p rfl rfl rfl rfl (fun _ => Ex.mv rfl) ?_
        refine WP.p rfl rfl rfl rfl (fun _ => Ex.mv rfl) ?_
        refine WP.p rfl rfl rfl rfl (fun _ => Ex.sub rfl rfl (c := (j : Int)) (by rw [i64w _ (by omega) (by omega)]; omega)) ?_
        refine WP.p rfl rfl rfl rfl (fun _ => Ex.mv rfl) ?_
        refine WP.p rfl rfl rfl rfl (fun _ => Ex.mul rfl rfl (c := ((2 * p : Nat) : Int)) (u64dbl hp1)) ?_
        refine WP.p rfl rfl rfl rfl (fun _ => Ex.mv rfl) ?_
        refine WP.p rfl rfl rfl rfl (fun _ => Ex.mv rfl) ?_
        refine WP.p rfl rfl rfl rfl (fun _ => Ex.sub rfl rfl (c := (j : Int)) (by rw [i64w _ (by omega) (by omega)]; omega)) ?_
        refine WP.p rfl rfl rfl rfl (fun _ => Ex.mv rfl) ?_
        refine WP.p rfl rfl rfl rfl (fun _ => Ex.mul rfl rfl (c := ((2 * p : Nat) : Int)) (u64dbl hp1)) ?_
        refine WP.p rfl rfl rfl rfl (fun _ => Ex.add rfl rfl (c := ((2 * p + 1 : Nat) : Int)) (by rw [show ((2 * p : Nat) : Int) + 1 = ((2 * p + 1 : Nat) : Int) by omega]; exact u64w_lt _ (by omega))) ?_
        refine WP.q (Keep.refl _ _) rfl rfl rfl rfl (fun w' hS => Ex.loadA ty98 rfl (emp_len (by first | assumption | exact emp0_ok)) ((M30.rdw (i := 1) rfl).keep0 hS)) ?_
        refine WP.q (Keep.refl _ _) rfl rfl rfl rfl (fun w' hS => Ex.loadA ty98 rfl (emp_len (by first | assumption | exact emp0_ok)) ((M30.rdw (i := 1) rfl).keep0 hS)) ?_
        refine WP.as rfl rfl rfl rfl (Ac.call rfl Tryd.func44 nm44 rfl (ih j (by omega) w30 A c ls (2 * p) (hr.keep0 M30.keep) hls32 hlen (by omega) (by omega) (hR.keep0 M30.keep))) ?_; rintro v44 w44 ⟨rfl, K44⟩
        refine ⟨Keep nof w44, fun u h => K44.trans h, Keep.refl _ _, ?_⟩
        have M44 := M30.step K44
        refine WP.as rfl rfl rfl rfl (Ac.call rfl Tryd.func44 nm44 rfl (ih j (by omega) w44 A c ls (2 * p + 1) (hr.keep0 M44.keep) hls32 hlen (by omega) (by omega) (hR.keep0 M44.keep))) ?_; rintro v45 w45 ⟨rfl, K45⟩
        refine ⟨Keep nof w45, fun u h => K45.trans h, Keep.refl _ _, ?_⟩
        have M45 := M44.step K45
        refine WP.as rfl rfl rfl rfl (Ac.call rfl Tryd.func76 nm76 rfl (refNode_ok w45 _ _ hx32 hy32 (hR.keep0 M45.keep))) ?_; rintro v46 w46 ⟨rfl, K46⟩
        refine ⟨Keep nof w46, fun u h => K46.trans h, Keep.refl _ _, ?_⟩
        have M46 := M45.step K46
        refine WP.a0 rfl rfl rfl (Ac.stA M46 ty31 rfl rfl rfl (h32_len (by first | assumption | exact h32_0)) (bytesV_one _) (i := 0) rfl (by first | (rw [h32_len (by first | assumption | exact h32_0), h32_len (by first | assumption | exact h32_0)]; decide) | (rw [h32_len (by first | assumption | exact h32_0)]; decide) | rw [h32_len (by first | assumption | exact h32_0)])) ?_; rintro v47 w47 ⟨K47, M47⟩; refine .inl ⟨rfl, Keep nof w47, ?_⟩
        try dsimp only [List.set] at M47
        rw [splice_all _ _ (by first | rw [h32_len (by first | assumption | exact h32_0), h32_len (by first | assumption | exact h32_0)] | rw [h32_len (by first | assumption | exact h32_0)])] at M47
        refine WP.nil ?_
        refine WX.next (?_)
        refine WC.ret ?_
        refine WX.retc rfl rfl (run_loadVarA ty31 (h32_len (by first | assumption | exact h32_0)) (M47.rdw (i := 0) rfl)) ?_
        rw [hnd]
        exact ⟨rfl, M47.keep⟩

theorem rnode_ok : ∀ k, RN k := fun k => Nat.strongRecOn k fun k ih w A c ls p h1 h2 h3 h4 h5 h6 => rnode_step k ih w A c ls p h1 h2 h3 h4 h5 h6

/- sponsion/sponsionref10.Node -/
theorem rNode_ok (w : World) (A : Option Addr) (c : Nat) (ls : Hs) (k p : Nat) (hr : Rd w A (fl ls)) (hls32 : ∀ a ∈ ls, H32 a) (hlen : ls.length ≤ 4294967296) (hk : k ≤ 32) (hp : (p + 1) * 2 ^ k ≤ 4294967296) (hR : TabR w) :
    Gives Tryd.prog 15 #[.slice A ls.length c, .int .i64 (k : Int), .int .u64 (p : Int)] w fun u w1 => u = .agg (bytesV (nd dNode e0 ls k p)).toArray ∧ Keep nof w w1 := by
  have M0 := Mem.start w nof
  have hr32 := nd32 hls32 k p
  refine Gives.enter (n := 12) Tryd.func15 rfl Tryd.ntmps15 rfl (env := [(0, .slice A ls.length c), (1, .int .i64 (k : Int)), (2, .int .u64 (p : Int))]) rfl ?_
  refine WC.seq ?_
  refine WC.region ?_
  refine WL.ac rfl rfl rfl (Ac.alloc M0 (l := bytesV (List.replicate 32 0)) (by kernel_rfl)) ?_; rintro v1 w1 ⟨go, rfl, hg1, K1, M1⟩
  refine WL.nil ?_
  refine WX.next (?_)
  refine WC.seq ?_
  refine WC.region ?_
  refine WL.ac rfl rfl rfl (Ac.call rfl Tryd.func45 nm45 rfl (empties_ok w1 (hR.keep0 M1.keep))) ?_; rintro v2 w2 ⟨rfl, K2⟩
  have M2 := M1.step K2
  refine WL.ex rfl rfl rfl (Ex.mv rfl) ?_
  refine WL.ex rfl rfl rfl (Ex.mv rfl) ?_
  refine WL.ex rfl rfl rfl (Ex.mv rfl) ?_
  refine WL.ac rfl rfl rfl (Ac.call rfl Tryd.func44 nm44 rfl (rnode_ok k w2 A c ls p (hr.keep0 M2.keep) hls32 hlen hk hp (hR.keep0 M2.keep))) ?_; rintro v6 w6 ⟨rfl, K6⟩
  have M6 := M2.step K6
  refine WL.ac0 rfl rfl (Ac.stA M6 ty31 rfl rfl rfl (h32_len (by first | assumption | exact h32_0)) (bytesV_one _) (i := 0) rfl (by first | (rw [h32_len (by first | assumption | exact h32_0), h32_len (by first | assumption | exact h32_0)]; decide) | (rw [h32_len (by first | assumption | exact h32_0)]; decide) | rw [h32_len (by first | assumption | exact h32_0)])) ?_; rintro v7 w7 ⟨K7, M7⟩
  try dsimp only [List.set] at M7
  rw [splice_all _ _ (by first | rw [h32_len (by first | assumption | exact h32_0), h32_len (by first | assumption | exact h32_0)] | rw [h32_len (by first | assumption | exact h32_0)])] at M7
  refine WL.nil ?_
  refine WX.next (?_)
  refine WC.ret ?_
  refine WX.retc rfl rfl (run_loadVarA ty31 (h32_len (by first | assumption | exact h32_0)) (M7.rdw (i := 0) rfl)) ?_
  exact ⟨rfl, M7.keep⟩

/- sponsion/sponsionref10.Places -/
theorem places_ok (w : World) (d : Nat) (z : Int) (hd : d ≤ 32) (hz : -9223372036854775808 ≤ z ∧ z ≤ 9223372036854775807) :
    Gives Tryd.prog 36 #[.int .i64 (d : Int), .int .i64 z] w fun u w1 => u = .int .u64 (places d z : Int) ∧ Keep nof w w1 := by
  have M0 := Mem.start w nof
  refine Gives.enter (n := 22) Tryd.func36 rfl Tryd.ntmps36 rfl (env := [(0, .int .i64 (d : Int)), (1, .int .i64 z)]) rfl ?_
  refine WC.seq ?_
  refine WC.region ?_
  refine WL.ex rfl rfl rfl (Ex.asg rfl) ?_
  refine WL.nil ?_
  refine WX.next (?_)
  refine WC.seq ?_
  refine WC.seq ?_
  refine WC.region ?_
  refine WL.ex rfl rfl rfl (Ex.mv rfl) ?_
  refine WL.ex rfl rfl rfl (Ex.lss rfl rfl) ?_
  refine WL.ex rfl rfl rfl (Ex.mv rfl) ?_
  by_cases h1 : z < 0
  · rw [decide_eq_true h1]
    have hpl : places d z = 0 := if_neg (by omega)
    refine WL.no rfl rfl rfl rfl rfl rfl ?_
    refine WL.no rfl rfl rfl rfl rfl rfl ?_
    refine WL.no rfl rfl rfl rfl rfl rfl ?_
    refine WL.ex rfl rfl rfl (Ex.pickT rfl rfl) ?_
    refine WL.nil ?_
    refine WX.next (?_)
    refine WC.yes rfl ?_
    refine WC.seq ?_
    refine WC.region ?_
    refine WL.ex rfl rfl rfl (Ex.asg rfl) ?_
    refine WL.nil ?_
    refine WX.next (?_)
    refine WC.ret ?_
    refine WX.ret_then (?_)
    refine WX.ret1 rfl rfl ?_
    rw [hpl]
    exact ⟨rfl, M0.keep⟩
  · rw [decide_eq_false h1]
    obtain ⟨k, rfl⟩ := Int.eq_ofNat_of_zero_le (show 0 ≤ z by omega)
    refine WL.yes rfl rfl rfl rfl ?_
    refine WL.ex rfl rfl rfl (Ex.mv rfl) ?_
    refine WL.yes rfl rfl rfl rfl ?_
    refine WL.ex rfl rfl rfl (Ex.mv rfl) ?_
    refine WL.yes rfl rfl rfl rfl ?_
    refine WL.ex rfl rfl rfl (Ex.gtr rfl rfl) ?_
    refine WL.ex rfl rfl rfl (Ex.pickF rfl rfl) ?_
    refine WL.nil ?_
    refine WX.next (?_)
    refine WC.cond_dec rfl (fun h12 => ?_) (fun h12 => ?_)
    · have hpl : places d (k : Int) = 0 := if_neg (by omega)
      refine WC.seq ?_
      refine WC.region ?_
      refine WL.ex rfl rfl rfl (Ex.asg rfl) ?_
      refine WL.nil ?_
      refine WX.next (?_)
      refine WC.ret ?_
      refine WX.ret_then (?_)
      refine WX.ret1 rfl rfl ?_
      rw [hpl]
      exact ⟨rfl, M0.keep⟩
    · have hpl : places d (k : Int) = 2 ^ (d - k) := if_pos (by omega)
      refine WC.skip ?_
      refine WX.next (?_)
      refine WC.seq ?_
      refine WC.region ?_
      refine WL.ex rfl rfl rfl (Ex.asg rfl) ?_
      refine WL.nil ?_
      refine WX.next (?_)
      refine WC.seq ?_
      refine WC.seq ?_
      refine WC.region ?_
      refine WL.ex rfl rfl rfl (Ex.mv rfl) ?_
      refine WL.ex rfl rfl rfl (Ex.mv rfl) ?_
      refine WL.ex rfl rfl rfl (Ex.sub rfl rfl (c := ((d - k : Nat) : Int)) (by rw [i64w _ (by omega) (by omega)]; omega)) ?_
      refine WL.ex rfl rfl rfl (Ex.mv rfl) ?_
      refine WL.nil ?_
      refine WX.next (?_)
      refine WC.block ?_
      refine WC.loop (σ := Nat) (fun i => [(5, .int .u64 ((2 ^ i : Nat) : Int)), (15, .int .i64 ((d - k : Nat) : Int)), (16, .int .i64 (i : Int))]) (fun i wr => i ≤ d - k ∧ Mem w wr nof []) (fun i => d - k - i) (0) ?_ (.cons rfl (.cons rfl (.cons rfl (.nil)))) ?_
      · exact ⟨by omega, M0⟩
      rintro i w17 ⟨hi, M17⟩
      refine WC.seq ?_
      refine WC.region ?_
      refine WL.ex rfl rfl rfl (Ex.lss rfl rfl) ?_
      refine WL.nil ?_
      refine WX.next (?_)
      refine WC.seq ?_
      refine WC.cond_dec rfl (fun hc17 => ?_) (fun hc17 => ?_)
      · have h2i : 2 ^ i ≤ 4294967296 := Nat.le_trans (Nat.pow_le_pow_right (show 0 < 2 by decide) (show i ≤ 32 by omega)) (by decide)
        refine WC.skip ?_
        refine WX.next (?_)
        refine WC.seq ?_
        refine WC.block ?_
        refine WC.region ?_
        refine WL.ex rfl rfl rfl (Ex.mv rfl) ?_
        refine WL.ex rfl rfl rfl (Ex.mul rfl rfl (c := ((2 ^ (i + 1) : Nat) : Int)) (by rw [Nat.pow_succ, Nat.mul_comm]; exact u64dbl h2i)) ?_
        refine WL.ex rfl rfl rfl (Ex.asg rfl) ?_
        refine WL.nil ?_
        refine WX.normal_block (WX.next (?_))
        refine WC.region ?_
        refine WL.ex rfl rfl rfl (Ex.add rfl rfl (i64w _ (by omega) (by omega))) ?_
        refine WL.ex rfl rfl rfl (Ex.mv rfl) ?_
        refine WL.nil ?_
        refine WX.again (i + 1) ?_ ?_ (.cons rfl (.cons rfl (.cons rfl (.nil))))
        · (try dsimp only); omega
        · exact ⟨by omega, M17⟩
      · obtain rfl : i = d - k := by omega
        refine WC.exit ?_
        refine WX.exit_then (WX.exit_then (WX.exit_block (WX.next (?_))))
        refine WC.seq ?_
        refine WC.region ?_
        refine WL.ex rfl rfl rfl (Ex.mv rfl) ?_
        refine WL.ex rfl rfl rfl (Ex.asg rfl) ?_
        refine WL.nil ?_
        refine WX.next (?_)
        refine WC.ret ?_
        refine WX.ret1 rfl rfl ?_
        rw [hpl]
        exact ⟨rfl, M17.keep⟩

end Go.Proofs.YtchmjpdkonfifaaDoor
