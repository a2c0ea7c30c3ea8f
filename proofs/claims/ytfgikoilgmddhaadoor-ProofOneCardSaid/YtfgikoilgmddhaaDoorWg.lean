/- Walks, written by gen.py off the translation's own print: each says what the Go function comes to. -/
import Derived.Test.YtfgikoilgmddhaaDoorWe
set_option linter.unusedVariables false
set_option linter.unusedSimpArgs false
namespace Go.Proofs.YtfgikoilgmddhaaDoor
open Go.Sx Go.RowKit
attribute [local irreducible] Ac Ex WL WC WX WP Gives sha

/-- The pair whose Node is the next sum. -/
def prB (P : Hs) (i : Nat) (a : List UInt8) (k : Nat) : List UInt8 × List UInt8 := if i / 2 ^ k % 2 = 1 then (P.getD k [], clB P i a k) else (clB P i a k, P.getD k [])
theorem clB_pr (P : Hs) (i : Nat) (a : List UInt8) (k : Nat) : clB P i a (k + 1) = dNode (prB P i a k).1 (prB P i a k).2 := by
  rw [clB, prB]
  rcases Nat.mod_two_eq_zero_or_one (i / 2 ^ k) with h | h <;> simp [h]
theorem prB_inj {P Q : Hs} {i k : Nat} {a b : List UInt8} (h : prB P i a k = prB Q i b k) : clB P i a k = clB Q i b k := by
  unfold prB at h
  split at h
  · exact (Prod.mk.inj h).2
  · exact (Prod.mk.inj h).1
def colAt (P Q : Hs) (i : Nat) (a b : List UInt8) (k : Nat) : Bool := decide (clB P i a (k + 1) = clB Q i b (k + 1)) && !decide (prB P i a k = prB Q i b k)
def colB (P Q : Hs) (i : Nat) (a b : List UInt8) (d : Nat) : Bool := (List.range d).any (colAt P Q i a b)
theorem colB_succ {P Q : Hs} {i : Nat} {a b : List UInt8} {d : Nat} : colB P Q i a b (d + 1) = (colB P Q i a b d || colAt P Q i a b d) := by
  rw [colB, List.range_succ, List.any_append]
  simp [colB]
theorem colB_hit {P Q : Hs} {i : Nat} {a b : List UInt8} {d k : Nat} (hk : k < d) (h : colAt P Q i a b k = true) : colB P Q i a b d = true := List.any_eq_true.2 ⟨k, List.mem_range.2 hk, h⟩
theorem col_of {P Q : Hs} {i : Nat} {a b : List UInt8} (hab : a ≠ b) : ∀ {d : Nat}, clB P i a d = clB Q i b d → colB P Q i a b d = true
  | 0, h => absurd h hab
  | d + 1, h => by
    rw [colB_succ]
    by_cases he : prB P i a d = prB Q i b d
    · rw [col_of hab (prB_inj he)]; rfl
    · rw [colAt, decide_eq_true h, decide_eq_false he]; simp

/- sponsion/sponsionlaw11.collides -/
theorem collides_ok (w : World) (d i : Nat) (a : List UInt8) (P : Hs) (b : List UInt8) (Q : Hs) (hd : d ≤ 32) (hi : i < 18446744073709551616) (ha : H32 a) (hP : PrfOk P) (hb : H32 b) (hQ : PrfOk Q) (hT : Tabs w) :
    Gives Tryd.prog 27 #[.int .i64 (d : Int), .int .u64 (i : Int), .agg (bytesV a).toArray, .agg (prfC P).toArray, .agg (bytesV b).toArray, .agg (prfC Q).toArray] w fun u w1 => u = .bool (colB P Q i a b d) ∧ Keep nof w w1 := by
  have M0 := Mem.start w nof
  have hPl : P.length = 32 := hP.len
  have hPm := hP.mem
  have hQl : Q.length = 32 := hQ.len
  have hQm := hQ.mem
  refine Gives.enter (n := 59) Tryd.func27 rfl Tryd.ntmps27 rfl (env := [(0, .int .i64 (d : Int)), (1, .int .u64 (i : Int)), (2, .agg (bytesV a).toArray), (3, .agg (prfC P).toArray), (4, .agg (bytesV b).toArray), (5, .agg (prfC Q).toArray)]) rfl ?_
  refine WC.seq ?_
  refine WC.region ?_
  refine WL.ac rfl rfl rfl (Ac.box M0 rfl rfl) ?_; rintro v1 w1 ⟨ga, rfl, hg1, K1, M1⟩
  refine WL.ac rfl rfl rfl (Ac.box M1 rfl rfl) ?_; rintro v2 w2 ⟨gP, rfl, hg2, K2, M2⟩
  refine WL.ac rfl rfl rfl (Ac.box M2 rfl rfl) ?_; rintro v3 w3 ⟨gb, rfl, hg3, K3, M3⟩
  refine WL.ac rfl rfl rfl (Ac.box M3 rfl rfl) ?_; rintro v4 w4 ⟨gQ, rfl, hg4, K4, M4⟩
  refine WL.ex rfl rfl rfl (Ex.asg rfl) ?_
  refine WL.nil ?_
  refine WX.next (?_)
  refine WC.seq ?_
  refine WC.seq ?_
  refine WC.region ?_
  refine WL.ex rfl rfl rfl (Ex.mv rfl) ?_
  refine WL.ex rfl rfl rfl (Ex.mv rfl) ?_
  refine WL.nil ?_
  refine WX.next (?_)
  refine WC.block ?_
  refine WC.loop (σ := Nat) (fun k => [(1, .int .u64 (i : Int)), (8, .pointer (some ⟨ga, 0, none⟩)), (9, .pointer (some ⟨gP, 0, none⟩)), (10, .pointer (some ⟨gb, 0, none⟩)), (11, .pointer (some ⟨gQ, 0, none⟩)), (18, .int .i64 (d : Int)), (19, .int .i64 (k : Int))]) (fun k wr => k ≤ d ∧ colB P Q i a b k = false ∧ Mem w wr nof [blk gQ (prfC (Q)) 38, blk gb (bytesV (clB Q i b k)) 28, blk gP (prfC (P)) 38, blk ga (bytesV (clB P i a k)) 28]) (fun k => d - k) (0) ?_ (.cons rfl (.cons rfl (.cons rfl (.cons rfl (.cons rfl (.cons rfl (.cons rfl (.nil)))))))) ?_
  · exact ⟨by omega, rfl, M4⟩
  rintro k w8 ⟨hk, hcb, M8⟩
  refine WC.seq ?_
  refine WC.region ?_
  refine WL.ex rfl rfl rfl (Ex.lss rfl rfl) ?_
  refine WL.nil ?_
  refine WX.next (?_)
  refine WC.seq ?_
  refine WC.cond_dec rfl (fun hc20 => ?_) (fun hc20 => ?_)
  · obtain ⟨x, hxk⟩ : ∃ x, P[k]? = some x := ⟨_, List.getElem?_eq_getElem (by omega)⟩
    have hx32 : H32 x := hPm x (List.mem_of_getElem? hxk)
    have hgx : P.getD k [] = x := by rw [List.getD, hxk]; rfl
    obtain ⟨y, hyk⟩ : ∃ y, Q[k]? = some y := ⟨_, List.getElem?_eq_getElem (by omega)⟩
    have hy32 : H32 y := hQm y (List.mem_of_getElem? hyk)
    have hgy : Q.getD k [] = y := by rw [List.getD, hyk]; rfl
    have hca := clB32 (P := P) (i := i) ha k
    have hcb32 := clB32 (P := Q) (i := i) hb k
    have hdv := Nat.div_le_self i (2 ^ k)
    refine WC.skip ?_
    refine WX.next (?_)
    refine WC.seq ?_
    refine WC.block ?_
    refine WC.seq ?_
    refine WC.region ?_
    refine WL.ex rfl rfl rfl (Ex.mv rfl) ?_
    refine WL.ex rfl rfl rfl (Ex.asg rfl) ?_
    refine WL.nil ?_
    refine WX.next (?_)
    refine WC.cut (σ := Nat × Nat) (fun s => [(1, .int .u64 (i : Int)), (8, .pointer (some ⟨ga, 0, none⟩)), (9, .pointer (some ⟨gP, 0, none⟩)), (10, .pointer (some ⟨gb, 0, none⟩)), (11, .pointer (some ⟨gQ, 0, none⟩)), (13, .int .i64 (k : Int)), (14, .pointer (some ⟨s.1, 0, none⟩)), (15, .pointer (some ⟨s.2, 0, none⟩)), (18, .int .i64 (d : Int)), (19, .int .i64 (k : Int))]) (fun s wr => Mem w wr nof [blk s.2 (bytesV (x)) 28, blk s.1 (bytesV (clB P i a k)) 28, blk gQ (prfC (Q)) 38, blk gb (bytesV (clB Q i b k)) 28, blk gP (prfC (P)) 38, blk ga (bytesV (clB P i a k)) 28]) ?_ ?_
    ·
      have D12 := Keep.drew nof w8
      have M12 := M8.step D12
      refine WC.draw (Keep (FP M12 []) w8.drew) [7] (.one 1 0 (.one 2 0 (.one 0 1 (.one 3 1 (.two 4 (.one 5 2 (.one 6 2 (.one 7 2 .nil))) 5 (.one 4 2 (.one 6 2 (.one 7 2 .nil)))))))) mixed (by kernel_rfl) (by kernel_rfl) (by kernel_rfl) (HQ.then_ (HQ.block (HQ.then_ (HQ.then_ (HQ.block (HQ.then_ HQ.body)))))) ?_
      revert D12 M12; generalize w8.drew = w12; intro D12 M12
      have B12 : Mem w12 w12 (FP M12 []) [] := M12.base [] (by decide)
      refine WP.p rfl rfl rfl rfl (fun _ => Ex.mv rfl) ?_
      refine WP.p rfl rfl rfl rfl (fun _ => Ex.iaA Tryd.underlying38 sz28 rfl rfl ⟨by omega, by omega⟩) ?_
      refine WP.q B12.keep rfl rfl rfl rfl (fun w' hS => Ex.loadA ty28 rfl (h32_len (by first | assumption | exact h32_0)) (M12.fp_rdw (j := 3) hS rfl rfl)) ?_
      refine WP.q B12.keep rfl rfl rfl rfl (fun w' hS => Ex.loadA ty28 rfl (l := bytesV x) (h32_len hx32) (M12.fp_rdt (j := 2) hS rfl (flat_at (i := k) (fun a ha => h32_len (hPm a ha)) hxk (by simp)) rfl)) ?_
      refine WP.two ?_ ?_
      · skip
        refine WP.a rfl rfl rfl rfl (Ac.alloc M12 (l := bytesV (List.replicate 32 0)) (by kernel_rfl)) ?_; rintro v17 w17 ⟨gx, rfl, hg17, K17, M17⟩
        have B17 := B12.grow K17 (M17.get (i := 0) rfl) (by intro b hb; simp only [blk, List.mem_singleton] at hb; omega)
        refine .inr ⟨fun _ => B17.keep, ?_⟩
        refine WP.a rfl rfl rfl rfl (Ac.alloc M17 (l := bytesV (List.replicate 32 0)) (by kernel_rfl)) ?_; rintro v18 w18 ⟨gy, rfl, hg18, K18, M18⟩
        have B18 := B17.grow K18 (M18.get (i := 0) rfl) (by intro b hb; simp only [blk, List.mem_singleton] at hb; omega)
        refine .inr ⟨fun _ => B18.keep, ?_⟩
        refine WP.a0 rfl rfl rfl (Ac.stA M18 ty28 rfl rfl rfl (h32_len (by first | assumption | exact h32_0)) (bytesV_one _) (i := 1) rfl (by first | (rw [h32_len (by first | assumption | exact h32_0), h32_len (by first | assumption | exact h32_0)]; decide) | (rw [h32_len (by first | assumption | exact h32_0)]; decide) | rw [h32_len (by first | assumption | exact h32_0)])) ?_; rintro v19 w19 ⟨K19, M19⟩
        have B19 := B18.turn (i := 1) rfl K19 (M19.get (i := 1) rfl) (fun b hb => .inl hb)
        refine .inr ⟨fun _ => B19.keep, ?_⟩
        try dsimp only [List.set] at M19
        rw [splice_all _ _ (by first | rw [h32_len (by first | assumption | exact h32_0), h32_len (by first | assumption | exact h32_0)] | rw [h32_len (by first | assumption | exact h32_0)])] at M19
        refine WP.a0 rfl rfl rfl (Ac.stA M19 ty28 rfl rfl rfl (h32_len (by first | assumption | exact h32_0)) (bytesV_one _) (i := 0) rfl (by first | (rw [h32_len (by first | assumption | exact h32_0), h32_len (by first | assumption | exact h32_0)]; decide) | (rw [h32_len (by first | assumption | exact h32_0)]; decide) | rw [h32_len (by first | assumption | exact h32_0)])) ?_; rintro v20 w20 ⟨K20, M20⟩; refine .inl ⟨rfl, Keep nof w20, ?_⟩
        try dsimp only [List.set] at M20
        rw [splice_all _ _ (by first | rw [h32_len (by first | assumption | exact h32_0), h32_len (by first | assumption | exact h32_0)] | rw [h32_len (by first | assumption | exact h32_0)])] at M20
        refine WP.nil ?_
        refine WX.join ((gx, gy)) ?_ (.cons rfl (.cons rfl (.cons rfl (.cons rfl (.cons rfl (.cons rfl (.cons rfl (.cons rfl (.cons rfl (.cons rfl (.nil)))))))))))
        exact (Mem.pick M20 [0, 1, 2, 3, 4, 5] (by decide) rfl)
      · skip
        refine WP.a rfl rfl rfl rfl (Ac.alloc M12 (l := bytesV (List.replicate 32 0)) (by kernel_rfl)) ?_; rintro v21 w21 ⟨gy, rfl, hg21, K21, M21⟩
        have B21 := B12.grow K21 (M21.get (i := 0) rfl) (by intro b hb; simp only [blk, List.mem_singleton] at hb; omega)
        refine .inr ⟨fun _ => B21.keep, ?_⟩
        refine WP.a rfl rfl rfl rfl (Ac.alloc M21 (l := bytesV (List.replicate 32 0)) (by kernel_rfl)) ?_; rintro v22 w22 ⟨gx, rfl, hg22, K22, M22⟩
        have B22 := B21.grow K22 (M22.get (i := 0) rfl) (by intro b hb; simp only [blk, List.mem_singleton] at hb; omega)
        refine .inr ⟨fun _ => B22.keep, ?_⟩
        refine WP.a0 rfl rfl rfl (Ac.stA M22 ty28 rfl rfl rfl (h32_len (by first | assumption | exact h32_0)) (bytesV_one _) (i := 0) rfl (by first | (rw [h32_len (by first | assumption | exact h32_0), h32_len (by first | assumption | exact h32_0)]; decide) | (rw [h32_len (by first | assumption | exact h32_0)]; decide) | rw [h32_len (by first | assumption | exact h32_0)])) ?_; rintro v23 w23 ⟨K23, M23⟩
        have B23 := B22.turn (i := 0) rfl K23 (M23.get (i := 0) rfl) (fun b hb => .inl hb)
        refine .inr ⟨fun _ => B23.keep, ?_⟩
        try dsimp only [List.set] at M23
        rw [splice_all _ _ (by first | rw [h32_len (by first | assumption | exact h32_0), h32_len (by first | assumption | exact h32_0)] | rw [h32_len (by first | assumption | exact h32_0)])] at M23
        refine WP.a0 rfl rfl rfl (Ac.stA M23 ty28 rfl rfl rfl (h32_len (by first | assumption | exact h32_0)) (bytesV_one _) (i := 1) rfl (by first | (rw [h32_len (by first | assumption | exact h32_0), h32_len (by first | assumption | exact h32_0)]; decide) | (rw [h32_len (by first | assumption | exact h32_0)]; decide) | rw [h32_len (by first | assumption | exact h32_0)])) ?_; rintro v24 w24 ⟨K24, M24⟩; refine .inl ⟨rfl, Keep nof w24, ?_⟩
        try dsimp only [List.set] at M24
        rw [splice_all _ _ (by first | rw [h32_len (by first | assumption | exact h32_0), h32_len (by first | assumption | exact h32_0)] | rw [h32_len (by first | assumption | exact h32_0)])] at M24
        refine WP.nil ?_
        refine WX.join ((gx, gy)) ?_ (.cons rfl (.cons rfl (.cons rfl (.cons rfl (.cons rfl (.cons rfl (.cons rfl (.cons rfl (.cons rfl (.cons rfl (.nil)))))))))))
        exact (Mem.pick M24 [1, 0, 2, 3, 4, 5] (by decide) rfl)
    · rintro ⟨gx, gy⟩ w25 M25
      dsimp only at M25
      refine WC.sub (env' := [(1, .int .u64 (i : Int)), (8, .pointer (some ⟨ga, 0, none⟩)), (9, .pointer (some ⟨gP, 0, none⟩)), (10, .pointer (some ⟨gb, 0, none⟩)), (11, .pointer (some ⟨gQ, 0, none⟩)), (13, .int .i64 (k : Int)), (14, .pointer (some ⟨gx, 0, none⟩)), (15, .pointer (some ⟨gy, 0, none⟩)), (18, .int .i64 (d : Int)), (19, .int .i64 (k : Int))]) (.cons rfl (.cons rfl (.cons rfl (.cons rfl (.cons rfl (.cons rfl (.cons rfl (.cons rfl (.cons rfl (.cons rfl (.nil))))))))))) ?_
      refine WC.cut (σ := Nat × Nat) (fun s => [(1, .int .u64 (i : Int)), (8, .pointer (some ⟨ga, 0, none⟩)), (9, .pointer (some ⟨gP, 0, none⟩)), (10, .pointer (some ⟨gb, 0, none⟩)), (11, .pointer (some ⟨gQ, 0, none⟩)), (13, .int .i64 (k : Int)), (14, .pointer (some ⟨gx, 0, none⟩)), (15, .pointer (some ⟨gy, 0, none⟩)), (16, .pointer (some ⟨s.1, 0, none⟩)), (17, .pointer (some ⟨s.2, 0, none⟩)), (18, .int .i64 (d : Int)), (19, .int .i64 (k : Int))]) (fun s wr => Mem w wr nof [blk s.2 (bytesV (y)) 28, blk s.1 (bytesV (clB Q i b k)) 28, blk gy (bytesV (x)) 28, blk gx (bytesV (clB P i a k)) 28, blk gQ (prfC (Q)) 38, blk gb (bytesV (clB Q i b k)) 28, blk gP (prfC (P)) 38, blk ga (bytesV (clB P i a k)) 28]) ?_ ?_
      ·
        have D26 := Keep.drew nof w25
        have M26 := M25.step D26
        refine WC.draw (Keep (FP M26 []) w25.drew) [7] (.one 1 0 (.one 2 0 (.one 0 1 (.one 3 1 (.two 4 (.one 5 2 (.one 6 2 (.one 7 2 .nil))) 5 (.one 4 2 (.one 6 2 (.one 7 2 .nil)))))))) mixed (by kernel_rfl) (by kernel_rfl) (by kernel_rfl) (HQ.then_ (HQ.block (HQ.then_ (HQ.then_ (HQ.block (HQ.then_ HQ.body)))))) ?_
        revert D26 M26; generalize w25.drew = w26; intro D26 M26
        have B26 : Mem w26 w26 (FP M26 []) [] := M26.base [] (by decide)
        refine WP.p rfl rfl rfl rfl (fun _ => Ex.mv rfl) ?_
        refine WP.p rfl rfl rfl rfl (fun _ => Ex.iaA Tryd.underlying38 sz28 rfl rfl ⟨by omega, by omega⟩) ?_
        refine WP.q B26.keep rfl rfl rfl rfl (fun w' hS => Ex.loadA ty28 rfl (h32_len (by first | assumption | exact h32_0)) (M26.fp_rdw (j := 3) hS rfl rfl)) ?_
        refine WP.q B26.keep rfl rfl rfl rfl (fun w' hS => Ex.loadA ty28 rfl (l := bytesV y) (h32_len hy32) (M26.fp_rdt (j := 2) hS rfl (flat_at (i := k) (fun a ha => h32_len (hQm a ha)) hyk (by simp)) rfl)) ?_
        refine WP.two ?_ ?_
        · skip
          refine WP.a rfl rfl rfl rfl (Ac.alloc M26 (l := bytesV (List.replicate 32 0)) (by kernel_rfl)) ?_; rintro v31 w31 ⟨gv, rfl, hg31, K31, M31⟩
          have B31 := B26.grow K31 (M31.get (i := 0) rfl) (by intro b hb; simp only [blk, List.mem_singleton] at hb; omega)
          refine .inr ⟨fun _ => B31.keep, ?_⟩
          refine WP.a rfl rfl rfl rfl (Ac.alloc M31 (l := bytesV (List.replicate 32 0)) (by kernel_rfl)) ?_; rintro v32 w32 ⟨gu, rfl, hg32, K32, M32⟩
          have B32 := B31.grow K32 (M32.get (i := 0) rfl) (by intro b hb; simp only [blk, List.mem_singleton] at hb; omega)
          refine .inr ⟨fun _ => B32.keep, ?_⟩
          refine WP.a0 rfl rfl rfl (Ac.stA M32 ty28 rfl rfl rfl (h32_len (by first | assumption | exact h32_0)) (bytesV_one _) (i := 1) rfl (by first | (rw [h32_len (by first | assumption | exact h32_0), h32_len (by first | assumption | exact h32_0)]; decide) | (rw [h32_len (by first | assumption | exact h32_0)]; decide) | rw [h32_len (by first | assumption | exact h32_0)])) ?_; rintro v33 w33 ⟨K33, M33⟩
          have B33 := B32.turn (i := 1) rfl K33 (M33.get (i := 1) rfl) (fun b hb => .inl hb)
          refine .inr ⟨fun _ => B33.keep, ?_⟩
          try dsimp only [List.set] at M33
          rw [splice_all _ _ (by first | rw [h32_len (by first | assumption | exact h32_0), h32_len (by first | assumption | exact h32_0)] | rw [h32_len (by first | assumption | exact h32_0)])] at M33
          refine WP.a0 rfl rfl rfl (Ac.stA M33 ty28 rfl rfl rfl (h32_len (by first | assumption | exact h32_0)) (bytesV_one _) (i := 0) rfl (by first | (rw [h32_len (by first | assumption | exact h32_0), h32_len (by first | assumption | exact h32_0)]; decide) | (rw [h32_len (by first | assumption | exact h32_0)]; decide) | rw [h32_len (by first | assumption | exact h32_0)])) ?_; rintro v34 w34 ⟨K34, M34⟩; refine .inl ⟨rfl, Keep nof w34, ?_⟩
          try dsimp only [List.set] at M34
          rw [splice_all _ _ (by first | rw [h32_len (by first | assumption | exact h32_0), h32_len (by first | assumption | exact h32_0)] | rw [h32_len (by first | assumption | exact h32_0)])] at M34
          refine WP.nil ?_
          refine WX.join ((gv, gu)) ?_ (.cons rfl (.cons rfl (.cons rfl (.cons rfl (.cons rfl (.cons rfl (.cons rfl (.cons rfl (.cons rfl (.cons rfl (.cons rfl (.cons rfl (.nil)))))))))))))
          exact (Mem.pick M34 [0, 1, 2, 3, 4, 5, 6, 7] (by decide) rfl)
        · skip
          refine WP.a rfl rfl rfl rfl (Ac.alloc M26 (l := bytesV (List.replicate 32 0)) (by kernel_rfl)) ?_; rintro v35 w35 ⟨gu, rfl, hg35, K35, M35⟩
          have B35 := B26.grow K35 (M35.get (i := 0) rfl) (by intro b hb; simp only [blk, List.mem_singleton] at hb; omega)
          refine .inr ⟨fun _ => B35.keep, ?_⟩
          refine WP.a rfl rfl rfl rfl (Ac.alloc M35 (l := bytesV (List.replicate 32 0)) (by kernel_rfl)) ?_; rintro v36 w36 ⟨gv, rfl, hg36, K36, M36⟩
          have B36 := B35.grow K36 (M36.get (i := 0) rfl) (by intro b hb; simp only [blk, List.mem_singleton] at hb; omega)
          refine .inr ⟨fun _ => B36.keep, ?_⟩
          refine WP.a0 rfl rfl rfl (Ac.stA M36 ty28 rfl rfl rfl (h32_len (by first | assumption | exact h32_0)) (bytesV_one _) (i := 0) rfl (by first | (rw [h32_len (by first | assumption | exact h32_0), h32_len (by first | assumption | exact h32_0)]; decide) | (rw [h32_len (by first | assumption | exact h32_0)]; decide) | rw [h32_len (by first | assumption | exact h32_0)])) ?_; rintro v37 w37 ⟨K37, M37⟩
          have B37 := B36.turn (i := 0) rfl K37 (M37.get (i := 0) rfl) (fun b hb => .inl hb)
          refine .inr ⟨fun _ => B37.keep, ?_⟩
          try dsimp only [List.set] at M37
          rw [splice_all _ _ (by first | rw [h32_len (by first | assumption | exact h32_0), h32_len (by first | assumption | exact h32_0)] | rw [h32_len (by first | assumption | exact h32_0)])] at M37
          refine WP.a0 rfl rfl rfl (Ac.stA M37 ty28 rfl rfl rfl (h32_len (by first | assumption | exact h32_0)) (bytesV_one _) (i := 1) rfl (by first | (rw [h32_len (by first | assumption | exact h32_0), h32_len (by first | assumption | exact h32_0)]; decide) | (rw [h32_len (by first | assumption | exact h32_0)]; decide) | rw [h32_len (by first | assumption | exact h32_0)])) ?_; rintro v38 w38 ⟨K38, M38⟩; refine .inl ⟨rfl, Keep nof w38, ?_⟩
          try dsimp only [List.set] at M38
          rw [splice_all _ _ (by first | rw [h32_len (by first | assumption | exact h32_0), h32_len (by first | assumption | exact h32_0)] | rw [h32_len (by first | assumption | exact h32_0)])] at M38
          refine WP.nil ?_
          refine WX.join ((gv, gu)) ?_ (.cons rfl (.cons rfl (.cons rfl (.cons rfl (.cons rfl (.cons rfl (.cons rfl (.cons rfl (.cons rfl (.cons rfl (.cons rfl (.cons rfl (.nil)))))))))))))
          exact (Mem.pick M38 [1, 0, 2, 3, 4, 5, 6, 7] (by decide) rfl)
      · rintro ⟨gv, gu⟩ w39 M39
        dsimp only at M39
        refine WC.sub (env' := [(1, .int .u64 (i : Int)), (8, .pointer (some ⟨ga, 0, none⟩)), (9, .pointer (some ⟨gP, 0, none⟩)), (10, .pointer (some ⟨gb, 0, none⟩)), (11, .pointer (some ⟨gQ, 0, none⟩)), (13, .int .i64 (k : Int)), (14, .pointer (some ⟨gx, 0, none⟩)), (15, .pointer (some ⟨gy, 0, none⟩)), (16, .pointer (some ⟨gv, 0, none⟩)), (17, .pointer (some ⟨gu, 0, none⟩)), (18, .int .i64 (d : Int)), (19, .int .i64 (k : Int))]) (.cons rfl (.cons rfl (.cons rfl (.cons rfl (.cons rfl (.cons rfl (.cons rfl (.cons rfl (.cons rfl (.cons rfl (.cons rfl (.cons rfl (.nil))))))))))))) ?_
        refine WC.cut (σ := Unit) (fun _ => [(1, .int .u64 (i : Int)), (8, .pointer (some ⟨ga, 0, none⟩)), (9, .pointer (some ⟨gP, 0, none⟩)), (10, .pointer (some ⟨gb, 0, none⟩)), (11, .pointer (some ⟨gQ, 0, none⟩)), (14, .pointer (some ⟨gx, 0, none⟩)), (15, .pointer (some ⟨gy, 0, none⟩)), (16, .pointer (some ⟨gv, 0, none⟩)), (17, .pointer (some ⟨gu, 0, none⟩)), (18, .int .i64 (d : Int)), (19, .int .i64 (k : Int))]) (fun _ wr => Mem w wr nof [blk gu (bytesV ((prB Q i b k).2)) 28, blk gv (bytesV ((prB Q i b k).1)) 28, blk gy (bytesV ((prB P i a k).2)) 28, blk gx (bytesV ((prB P i a k).1)) 28, blk gQ (prfC (Q)) 38, blk gb (bytesV (clB Q i b k)) 28, blk gP (prfC (P)) 38, blk ga (bytesV (clB P i a k)) 28]) ?_ ?_
        ·
          refine WC.seq ?_
          refine WC.region ?_
          refine WL.ex rfl rfl rfl (Ex.mv rfl) ?_
          refine WL.ex rfl rfl rfl (Ex.mv rfl) ?_
          refine WL.ex rfl rfl rfl (Ex.shr rfl rfl (m := k) rfl (c := ((i / 2 ^ k : Nat) : Int)) (shrN _ _ _ (by simp [IntKind.bits]; omega))) ?_
          refine WL.ex rfl rfl rfl (Ex.rem rfl rfl (by decide) (c := ((i / 2 ^ k % 2 : Nat) : Int)) (tmodT _ 2)) ?_
          refine WL.ex rfl rfl rfl (Ex.eqI rfl rfl) ?_
          refine WL.nil ?_
          refine WX.next (?_)
          refine WC.cond_dec rfl (fun h34 => ?_) (fun h34 => ?_)
          · have h35 : i / 2 ^ k % 2 = 1 := by exact_mod_cast h34
            have hpa : prB P i a k = (x, clB P i a k) := by rw [prB, if_pos h35, hgx]
            have hpb : prB Q i b k = (y, clB Q i b k) := by rw [prB, if_pos h35, hgy]
            refine WC.draw (Keep nof w39.drew) [4, 5, 6, 7] (.one 0 1 (.one 1 1 (.one 3 1 (.two 2 (.one 4 2 (.one 5 2 (.one 6 2 (.one 7 2 .nil)))) 4 (.two 2 (.one 5 2 (.one 6 2 (.one 7 2 .nil))) 5 (.one 2 2 (.one 6 2 (.one 7 2 .nil)))))))) mixed (by kernel_rfl) (by kernel_rfl) (by kernel_rfl) (HQ.then_ (HQ.block (HQ.then_ (HQ.then_ (HQ.block (HQ.then_ HQ.body)))))) ?_
            obtain ⟨w45, hw45⟩ : ∃ v, v = w39.drew := ⟨_, rfl⟩
            have D45 : Keep nof w39 w45 := by rw [hw45]; exact Keep.drew _ _
            have M45 := M39.step D45
            rw [← hw45]; clear hw45
            refine WP.q (Keep.refl _ _) rfl rfl rfl rfl (fun w' hS => Ex.loadA ty28 rfl (h32_len (by first | assumption | exact h32_0)) ((M45.rdw (i := 2) rfl).keep0 hS)) ?_
            refine WP.q (Keep.refl _ _) rfl rfl rfl rfl (fun w' hS => Ex.loadA ty28 rfl (h32_len (by first | assumption | exact h32_0)) ((M45.rdw (i := 3) rfl).keep0 hS)) ?_
            refine WP.q (Keep.refl _ _) rfl rfl rfl rfl (fun w' hS => Ex.loadA ty28 rfl (h32_len (by first | assumption | exact h32_0)) ((M45.rdw (i := 1) rfl).keep0 hS)) ?_
            refine WP.two ?_ ?_
            · skip
              refine WP.a rfl rfl rfl rfl (Ex.ac (Ex.loadA ty28 rfl (h32_len (by first | assumption | exact h32_0)) (M45.rdw (i := 0) rfl))) ?_; rintro _ _ ⟨rfl, rfl⟩; refine .inr ⟨id, ?_⟩
              refine WP.a0 rfl rfl rfl (Ac.stA M45 ty28 rfl rfl rfl (h32_len (by first | assumption | exact h32_0)) (bytesV_one _) (i := 3) rfl (by first | (rw [h32_len (by first | assumption | exact h32_0), h32_len (by first | assumption | exact h32_0)]; decide) | (rw [h32_len (by first | assumption | exact h32_0)]; decide) | rw [h32_len (by first | assumption | exact h32_0)])) ?_; rintro v50 w50 ⟨K50, M50⟩; refine .inl ⟨rfl, Keep nof w50, ?_⟩
              try dsimp only [List.set] at M50
              rw [splice_all _ _ (by first | rw [h32_len (by first | assumption | exact h32_0), h32_len (by first | assumption | exact h32_0)] | rw [h32_len (by first | assumption | exact h32_0)])] at M50
              refine WP.a0 rfl rfl rfl (Ac.stA M50 ty28 rfl rfl rfl (h32_len (by first | assumption | exact h32_0)) (bytesV_one _) (i := 2) rfl (by first | (rw [h32_len (by first | assumption | exact h32_0), h32_len (by first | assumption | exact h32_0)]; decide) | (rw [h32_len (by first | assumption | exact h32_0)]; decide) | rw [h32_len (by first | assumption | exact h32_0)])) ?_; rintro v51 w51 ⟨K51, M51⟩; refine .inl ⟨rfl, Keep nof w51, ?_⟩
              try dsimp only [List.set] at M51
              rw [splice_all _ _ (by first | rw [h32_len (by first | assumption | exact h32_0), h32_len (by first | assumption | exact h32_0)] | rw [h32_len (by first | assumption | exact h32_0)])] at M51
              refine WP.a0 rfl rfl rfl (Ac.stA M51 ty28 rfl rfl rfl (h32_len (by first | assumption | exact h32_0)) (bytesV_one _) (i := 1) rfl (by first | (rw [h32_len (by first | assumption | exact h32_0), h32_len (by first | assumption | exact h32_0)]; decide) | (rw [h32_len (by first | assumption | exact h32_0)]; decide) | rw [h32_len (by first | assumption | exact h32_0)])) ?_; rintro v52 w52 ⟨K52, M52⟩; refine .inl ⟨rfl, Keep nof w52, ?_⟩
              try dsimp only [List.set] at M52
              rw [splice_all _ _ (by first | rw [h32_len (by first | assumption | exact h32_0), h32_len (by first | assumption | exact h32_0)] | rw [h32_len (by first | assumption | exact h32_0)])] at M52
              refine WP.a0 rfl rfl rfl (Ac.stA M52 ty28 rfl rfl rfl (h32_len (by first | assumption | exact h32_0)) (bytesV_one _) (i := 0) rfl (by first | (rw [h32_len (by first | assumption | exact h32_0), h32_len (by first | assumption | exact h32_0)]; decide) | (rw [h32_len (by first | assumption | exact h32_0)]; decide) | rw [h32_len (by first | assumption | exact h32_0)])) ?_; rintro v53 w53 ⟨K53, M53⟩; refine .inl ⟨rfl, Keep nof w53, ?_⟩
              try dsimp only [List.set] at M53
              rw [splice_all _ _ (by first | rw [h32_len (by first | assumption | exact h32_0), h32_len (by first | assumption | exact h32_0)] | rw [h32_len (by first | assumption | exact h32_0)])] at M53
              refine WP.nil ?_
              refine WX.join (()) ?_ (.cons rfl (.cons rfl (.cons rfl (.cons rfl (.cons rfl (.cons rfl (.cons rfl (.cons rfl (.cons rfl (.cons rfl (.cons rfl (.nil))))))))))))
              rw [hpa, hpb]
              exact M53
            · skip
              refine WP.a0 rfl rfl rfl (Ac.stA M45 ty28 rfl rfl rfl (h32_len (by first | assumption | exact h32_0)) (bytesV_one _) (i := 3) rfl (by first | (rw [h32_len (by first | assumption | exact h32_0), h32_len (by first | assumption | exact h32_0)]; decide) | (rw [h32_len (by first | assumption | exact h32_0)]; decide) | rw [h32_len (by first | assumption | exact h32_0)])) ?_; rintro v54 w54 ⟨K54, M54⟩; refine .inl ⟨rfl, Keep nof w54, ?_⟩
              try dsimp only [List.set] at M54
              rw [splice_all _ _ (by first | rw [h32_len (by first | assumption | exact h32_0), h32_len (by first | assumption | exact h32_0)] | rw [h32_len (by first | assumption | exact h32_0)])] at M54
              refine WP.two ?_ ?_
              · skip
                refine WP.a rfl rfl rfl rfl (Ex.ac (Ex.loadA ty28 rfl (h32_len (by first | assumption | exact h32_0)) (M54.rdw (i := 0) rfl))) ?_; rintro _ _ ⟨rfl, rfl⟩; refine .inr ⟨id, ?_⟩
                refine WP.a0 rfl rfl rfl (Ac.stA M54 ty28 rfl rfl rfl (h32_len (by first | assumption | exact h32_0)) (bytesV_one _) (i := 2) rfl (by first | (rw [h32_len (by first | assumption | exact h32_0), h32_len (by first | assumption | exact h32_0)]; decide) | (rw [h32_len (by first | assumption | exact h32_0)]; decide) | rw [h32_len (by first | assumption | exact h32_0)])) ?_; rintro v56 w56 ⟨K56, M56⟩; refine .inl ⟨rfl, Keep nof w56, ?_⟩
                try dsimp only [List.set] at M56
                rw [splice_all _ _ (by first | rw [h32_len (by first | assumption | exact h32_0), h32_len (by first | assumption | exact h32_0)] | rw [h32_len (by first | assumption | exact h32_0)])] at M56
                refine WP.a0 rfl rfl rfl (Ac.stA M56 ty28 rfl rfl rfl (h32_len (by first | assumption | exact h32_0)) (bytesV_one _) (i := 1) rfl (by first | (rw [h32_len (by first | assumption | exact h32_0), h32_len (by first | assumption | exact h32_0)]; decide) | (rw [h32_len (by first | assumption | exact h32_0)]; decide) | rw [h32_len (by first | assumption | exact h32_0)])) ?_; rintro v57 w57 ⟨K57, M57⟩; refine .inl ⟨rfl, Keep nof w57, ?_⟩
                try dsimp only [List.set] at M57
                rw [splice_all _ _ (by first | rw [h32_len (by first | assumption | exact h32_0), h32_len (by first | assumption | exact h32_0)] | rw [h32_len (by first | assumption | exact h32_0)])] at M57
                refine WP.a0 rfl rfl rfl (Ac.stA M57 ty28 rfl rfl rfl (h32_len (by first | assumption | exact h32_0)) (bytesV_one _) (i := 0) rfl (by first | (rw [h32_len (by first | assumption | exact h32_0), h32_len (by first | assumption | exact h32_0)]; decide) | (rw [h32_len (by first | assumption | exact h32_0)]; decide) | rw [h32_len (by first | assumption | exact h32_0)])) ?_; rintro v58 w58 ⟨K58, M58⟩; refine .inl ⟨rfl, Keep nof w58, ?_⟩
                try dsimp only [List.set] at M58
                rw [splice_all _ _ (by first | rw [h32_len (by first | assumption | exact h32_0), h32_len (by first | assumption | exact h32_0)] | rw [h32_len (by first | assumption | exact h32_0)])] at M58
                refine WP.nil ?_
                refine WX.join (()) ?_ (.cons rfl (.cons rfl (.cons rfl (.cons rfl (.cons rfl (.cons rfl (.cons rfl (.cons rfl (.cons rfl (.cons rfl (.cons rfl (.nil))))))))))))
                rw [hpa, hpb]
                exact M58
              · skip
                refine WP.a0 rfl rfl rfl (Ac.stA M54 ty28 rfl rfl rfl (h32_len (by first | assumption | exact h32_0)) (bytesV_one _) (i := 2) rfl (by first | (rw [h32_len (by first | assumption | exact h32_0), h32_len (by first | assumption | exact h32_0)]; decide) | (rw [h32_len (by first | assumption | exact h32_0)]; decide) | rw [h32_len (by first | assumption | exact h32_0)])) ?_; rintro v59 w59 ⟨K59, M59⟩; refine .inl ⟨rfl, Keep nof w59, ?_⟩
                try dsimp only [List.set] at M59
                rw [splice_all _ _ (by first | rw [h32_len (by first | assumption | exact h32_0), h32_len (by first | assumption | exact h32_0)] | rw [h32_len (by first | assumption | exact h32_0)])] at M59
                refine WP.a rfl rfl rfl rfl (Ex.ac (Ex.loadA ty28 rfl (h32_len (by first | assumption | exact h32_0)) (M59.rdw (i := 0) rfl))) ?_; rintro _ _ ⟨rfl, rfl⟩; refine .inr ⟨id, ?_⟩
                refine WP.a0 rfl rfl rfl (Ac.stA M59 ty28 rfl rfl rfl (h32_len (by first | assumption | exact h32_0)) (bytesV_one _) (i := 1) rfl (by first | (rw [h32_len (by first | assumption | exact h32_0), h32_len (by first | assumption | exact h32_0)]; decide) | (rw [h32_len (by first | assumption | exact h32_0)]; decide) | rw [h32_len (by first | assumption | exact h32_0)])) ?_; rintro v61 w61 ⟨K61, M61⟩; refine .inl ⟨rfl, Keep nof w61, ?_⟩
                try dsimp only [List.set] at M61
                rw [splice_all _ _ (by first | rw [h32_len (by first | assumption | exact h32_0), h32_len (by first | assumption | exact h32_0)] | rw [h32_len (by first | assumption | exact h32_0)])] at M61
                refine WP.a0 rfl rfl rfl (Ac.stA M61 ty28 rfl rfl rfl (h32_len (by first | assumption | exact h32_0)) (bytesV_one _) (i := 0) rfl (by first | (rw [h32_len (by first | assumption | exact h32_0), h32_len (by first | assumption | exact h32_0)]; decide) | (rw [h32_len (by first | assumption | exact h32_0)]; decide) | rw [h32_len (by first | assumption | exact h32_0)])) ?_; rintro v62 w62 ⟨K62, M62⟩; refine .inl ⟨rfl, Keep nof w62, ?_⟩
                try dsimp only [List.set] at M62
                rw [splice_all _ _ (by first | rw [h32_len (by first | assumption | exact h32_0), h32_len (by first | assumption | exact h32_0)] | rw [h32_len (by first | assumption | exact h32_0)])] at M62
                refine WP.nil ?_
                refine WX.join (()) ?_ (.cons rfl (.cons rfl (.cons rfl (.cons rfl (.cons rfl (.cons rfl (.cons rfl (.cons rfl (.cons rfl (.cons rfl (.cons rfl (.nil))))))))))))
                rw [hpa, hpb]
                exact M62
          · have h35 : ¬ i / 2 ^ k % 2 = 1 := fun h => h34 (by exact_mod_cast h)
            have hpa : prB P i a k = (clB P i a k, x) := by rw [prB, if_neg h35, hgx]
            have hpb : prB Q i b k = (clB Q i b k, y) := by rw [prB, if_neg h35, hgy]
            refine WC.skip ?_
            refine WX.join (()) ?_ (.cons rfl (.cons rfl (.cons rfl (.cons rfl (.cons rfl (.cons rfl (.cons rfl (.cons rfl (.cons rfl (.cons rfl (.cons rfl (.nil))))))))))))
            rw [hpa, hpb]
            exact M39
        · rintro _ w63 M63
          refine WC.seq ?_
          have hpk : ∃ p1 p2, prB P i a k = (p1, p2) ∧ H32 p1 ∧ H32 p2 := by
            unfold prB
            split
            · exact ⟨_, _, rfl, by rw [hgx]; exact hx32, hca⟩
            · exact ⟨_, _, rfl, hca, by rw [hgx]; exact hx32⟩
          obtain ⟨p1, p2, hpe, hp1, hp2⟩ := hpk
          have hqk : ∃ q1 q2, prB Q i b k = (q1, q2) ∧ H32 q1 ∧ H32 q2 := by
            unfold prB
            split
            · exact ⟨_, _, rfl, by rw [hgy]; exact hy32, hcb32⟩
            · exact ⟨_, _, rfl, hcb32, by rw [hgy]; exact hy32⟩
          obtain ⟨q1, q2, hqe, hq1, hq2⟩ := hqk
          have hs1 := dNode_len p1 p2
          have hs2 := dNode_len q1 q2
          rw [hpe, hqe] at M63
          dsimp only at M63
          have D64 := Keep.drew nof w63
          have M64 := M63.step D64
          refine WC.draw (Keep (FP M64 [5, 7]) w63.drew) [7] (.one 0 1 (.one 1 1 (.one 3 1 (.one 4 1 (.one 2 2 (.one 5 2 (.one 6 2 (.one 7 2 .nil)))))))) mixed (by kernel_rfl) (by kernel_rfl) (by kernel_rfl) (HQ.then_ (HQ.block (HQ.then_ (HQ.then_ (HQ.block (HQ.then_ HQ.body)))))) ?_
          revert D64 M64; generalize w63.drew = w64; intro D64 M64
          have B64 : Mem w64 w64 (FP M64 [5, 7]) [_, _] := M64.base [5, 7] (by decide)
          refine WP.q B64.keep rfl rfl rfl rfl (fun w' hS => Ex.loadA ty28 rfl (h32_len (by first | assumption | exact h32_0)) (M64.fp_rdw (j := 3) hS rfl rfl)) ?_
          refine WP.q B64.keep rfl rfl rfl rfl (fun w' hS => Ex.loadA ty28 rfl (h32_len (by first | assumption | exact h32_0)) (M64.fp_rdw (j := 2) hS rfl rfl)) ?_
          refine WP.q B64.keep rfl rfl rfl rfl (fun w' hS => Ex.loadA ty28 rfl (h32_len (by first | assumption | exact h32_0)) (M64.fp_rdw (j := 1) hS rfl rfl)) ?_
          refine WP.q B64.keep rfl rfl rfl rfl (fun w' hS => Ex.loadA ty28 rfl (h32_len (by first | assumption | exact h32_0)) (M64.fp_rdw (j := 0) hS rfl rfl)) ?_
          refine WP.a rfl rfl rfl rfl (Ac.call rfl Tryd.func30 nm30 rfl (node_ok w64 _ _ hp1 hp2 (hT.keep M64.keep))) ?_; rintro v69 w69 ⟨rfl, K69⟩
          have B69 := B64.step K69
          refine .inr ⟨fun _ => B69.keep, ?_⟩
          have M69 := M64.step K69
          refine WP.a rfl rfl rfl rfl (Ac.call rfl Tryd.func30 nm30 rfl (node_ok w69 _ _ hq1 hq2 (hT.keep M69.keep))) ?_; rintro v70 w70 ⟨rfl, K70⟩
          have B70 := B69.step K70
          refine .inr ⟨fun _ => B70.keep, ?_⟩
          have M70 := M69.step K70
          refine WP.a0 rfl rfl rfl (Ac.stA M70 ty28 rfl rfl rfl (h32_len (by first | assumption | exact h32_0)) (bytesV_one _) (i := 7) rfl (by first | (rw [h32_len (by first | assumption | exact h32_0), h32_len (by first | assumption | exact h32_0)]; decide) | (rw [h32_len (by first | assumption | exact h32_0)]; decide) | rw [h32_len (by first | assumption | exact h32_0)])) ?_; rintro v71 w71 ⟨K71, M71⟩
          have B71 := B70.turn (i := 1) rfl K71 (M71.get (i := 7) rfl) (fun b hb => .inl hb)
          refine .inr ⟨fun _ => B71.keep, ?_⟩
          try dsimp only [List.set] at M71
          rw [splice_all _ _ (by first | rw [h32_len (by first | assumption | exact h32_0), h32_len (by first | assumption | exact h32_0)] | rw [h32_len (by first | assumption | exact h32_0)])] at M71
          refine WP.a0 rfl rfl rfl (Ac.stA M71 ty28 rfl rfl rfl (h32_len (by first | assumption | exact h32_0)) (bytesV_one _) (i := 5) rfl (by first | (rw [h32_len (by first | assumption | exact h32_0), h32_len (by first | assumption | exact h32_0)]; decide) | (rw [h32_len (by first | assumption | exact h32_0)]; decide) | rw [h32_len (by first | assumption | exact h32_0)])) ?_; rintro v72 w72 ⟨K72, M72⟩; refine .inl ⟨rfl, Keep nof w72, ?_⟩
          try dsimp only [List.set] at M72
          rw [splice_all _ _ (by first | rw [h32_len (by first | assumption | exact h32_0), h32_len (by first | assumption | exact h32_0)] | rw [h32_len (by first | assumption | exact h32_0)])] at M72
          refine WP.nil ?_
          refine WX.next (?_)
          refine WC.seq ?_
          refine WC.region ?_
          refine WL.ex rfl rfl rfl (Ex.loadA ty28 rfl (h32_len (by first | assumption | exact h32_0)) (M72.rdw (i := 7) rfl)) ?_
          refine WL.ex rfl rfl rfl (Ex.loadA ty28 rfl (h32_len (by first | assumption | exact h32_0)) (M72.rdw (i := 5) rfl)) ?_
          refine WL.ex rfl rfl rfl (Ex.eqA rfl rfl (eqHash w hs1 hs2)) ?_
          refine WL.ex rfl rfl rfl (Ex.mv rfl) ?_
          by_cases he : dNode p1 p2 = dNode q1 q2
          · rw [decide_eq_true he]
            refine WL.yes rfl rfl rfl rfl ?_
            refine WL.ex rfl rfl rfl (Ex.loadA ty28 rfl (h32_len (by first | assumption | exact h32_0)) (M72.rdw (i := 3) rfl)) ?_
            refine WL.yes rfl rfl rfl rfl ?_
            refine WL.ex rfl rfl rfl (Ex.loadA ty28 rfl (h32_len (by first | assumption | exact h32_0)) (M72.rdw (i := 1) rfl)) ?_
            refine WL.yes rfl rfl rfl rfl ?_
            refine WL.ex rfl rfl rfl (Ex.neA rfl rfl (eqHash w hp1 hq1)) ?_
            refine WL.yes rfl rfl rfl rfl ?_
            refine WL.ex rfl rfl rfl (Ex.mv rfl) ?_
            by_cases hx : ¬ p1 = q1
            · rw [decide_eq_false hx]
              have hat : colAt P Q i a b k = true := by rw [colAt, clB_pr, clB_pr, hpe, hqe, decide_eq_true he, decide_eq_false (fun h => hx (Prod.mk.inj h).1)]; rfl
              refine WL.no rfl rfl rfl rfl rfl rfl ?_
              refine WL.no rfl rfl rfl rfl rfl rfl ?_
              refine WL.no rfl rfl rfl rfl rfl rfl ?_
              refine WL.yes rfl rfl rfl rfl ?_
              refine WL.ex rfl rfl rfl (Ex.pickT rfl rfl) ?_
              refine WL.ex rfl rfl rfl (Ex.pickT rfl rfl) ?_
              refine WL.nil ?_
              refine WX.next (?_)
              refine WC.yes rfl ?_
              refine WC.seq ?_
              refine WC.region ?_
              refine WL.ex rfl rfl rfl (Ex.asg rfl) ?_
              refine WL.nil ?_
              refine WX.next (?_)
              refine WC.ret ?_
              refine WX.ret_block (WX.ret_then (WX.ret_then (WX.ret_block (WX.ret_then (?_)))))
              refine WX.ret1 rfl rfl ?_
              first | rw [colB_hit (k := k) (by omega) hat] | rw [hcb]
              exact ⟨rfl, M72.keep⟩
            · rw [decide_eq_true (Decidable.not_not.1 hx)]
              refine WL.yes rfl rfl rfl rfl ?_
              refine WL.ex rfl rfl rfl (Ex.loadA ty28 rfl (h32_len (by first | assumption | exact h32_0)) (M72.rdw (i := 2) rfl)) ?_
              refine WL.yes rfl rfl rfl rfl ?_
              refine WL.ex rfl rfl rfl (Ex.loadA ty28 rfl (h32_len (by first | assumption | exact h32_0)) (M72.rdw (i := 0) rfl)) ?_
              refine WL.yes rfl rfl rfl rfl ?_
              refine WL.ex rfl rfl rfl (Ex.neA rfl rfl (eqHash w hp2 hq2)) ?_
              by_cases hy : ¬ p2 = q2
              · rw [decide_eq_false hy]
                have hat : colAt P Q i a b k = true := by rw [colAt, clB_pr, clB_pr, hpe, hqe, decide_eq_true he, decide_eq_false (fun h => hy (Prod.mk.inj h).2)]; rfl
                refine WL.yes rfl rfl rfl rfl ?_
                refine WL.ex rfl rfl rfl (Ex.pickF rfl rfl) ?_
                refine WL.ex rfl rfl rfl (Ex.pickT rfl rfl) ?_
                refine WL.nil ?_
                refine WX.next (?_)
                refine WC.yes rfl ?_
                refine WC.seq ?_
                refine WC.region ?_
                refine WL.ex rfl rfl rfl (Ex.asg rfl) ?_
                refine WL.nil ?_
                refine WX.next (?_)
                refine WC.ret ?_
                refine WX.ret_block (WX.ret_then (WX.ret_then (WX.ret_block (WX.ret_then (?_)))))
                refine WX.ret1 rfl rfl ?_
                first | rw [colB_hit (k := k) (by omega) hat] | rw [hcb]
                exact ⟨rfl, M72.keep⟩
              · rw [decide_eq_true (Decidable.not_not.1 hy)]
                have hat : colAt P Q i a b k = false := by rw [colAt, clB_pr, clB_pr, hpe, hqe, Decidable.not_not.1 hx, Decidable.not_not.1 hy]; simp
                refine WL.yes rfl rfl rfl rfl ?_
                refine WL.ex rfl rfl rfl (Ex.pickF rfl rfl) ?_
                refine WL.ex rfl rfl rfl (Ex.pickT rfl rfl) ?_
                refine WL.nil ?_
                refine WX.next (?_)
                refine WC.no rfl ?_
                refine WC.skip ?_
                refine WX.normal_block (WX.next (?_))
                refine WC.region ?_
                refine WL.ex rfl rfl rfl (Ex.add rfl rfl (i64w _ (by omega) (by omega))) ?_
                refine WL.ex rfl rfl rfl (Ex.mv rfl) ?_
                refine WL.nil ?_
                refine WX.again (k + 1) ?_ ?_ (.cons rfl (.cons rfl (.cons rfl (.cons rfl (.cons rfl (.cons rfl (.cons rfl (.nil))))))))
                · (try dsimp only); omega
                · refine ⟨by omega, by rw [colB_succ, hcb, hat]; rfl, ?_⟩
                  rw [clB_pr, clB_pr, hpe, hqe]
                  exact (Mem.sub M72 (.cons _ (.cons _ (.cons _ (.cons _ (.refl _))))))
          · rw [decide_eq_false he]
            have hat : colAt P Q i a b k = false := by rw [colAt, clB_pr, clB_pr, hpe, hqe, decide_eq_false he]; rfl
            refine WL.no rfl rfl rfl rfl rfl rfl ?_
            refine WL.no rfl rfl rfl rfl rfl rfl ?_
            refine WL.no rfl rfl rfl rfl rfl rfl ?_
            refine WL.no rfl rfl rfl rfl rfl rfl ?_
            refine WL.no rfl rfl rfl rfl rfl rfl ?_
            refine WL.no rfl rfl rfl rfl rfl rfl ?_
            refine WL.no rfl rfl rfl rfl rfl rfl ?_
            refine WL.no rfl rfl rfl rfl rfl rfl ?_
            refine WL.ex rfl rfl rfl (Ex.pickF rfl rfl) ?_
            refine WL.nil ?_
            refine WX.next (?_)
            refine WC.no rfl ?_
            refine WC.skip ?_
            refine WX.normal_block (WX.next (?_))
            refine WC.region ?_
            refine WL.ex rfl rfl rfl (Ex.add rfl rfl (i64w _ (by omega) (by omega))) ?_
            refine WL.ex rfl rfl rfl (Ex.mv rfl) ?_
            refine WL.nil ?_
            refine WX.again (k + 1) ?_ ?_ (.cons rfl (.cons rfl (.cons rfl (.cons rfl (.cons rfl (.cons rfl (.cons rfl (.nil))))))))
            · (try dsimp only); omega
            · refine ⟨by omega, by rw [colB_succ, hcb, hat]; rfl, ?_⟩
              rw [clB_pr, clB_pr, hpe, hqe]
              exact (Mem.sub M72 (.cons _ (.cons _ (.cons _ (.cons _ (.refl _))))))
  · obtain rfl : d = k := by omega
    refine WC.exit ?_
    refine WX.exit_then (WX.exit_then (WX.exit_block (WX.next (?_))))
    refine WC.seq ?_
    refine WC.region ?_
    refine WL.ex rfl rfl rfl (Ex.asg rfl) ?_
    refine WL.nil ?_
    refine WX.next (?_)
    refine WC.ret ?_
    refine WX.ret1 rfl rfl ?_
    first | rw [colB_hit (k := k) (by omega) hat] | rw [hcb]
    exact ⟨rfl, M8.keep⟩

end Go.Proofs.YtfgikoilgmddhaaDoor
