/- Walks, written by gen.py off the translation's own print: each says what the Go function comes to. -/
import Derived.Test.YtchmjpdkonfifaaDoorCa
set_option linter.unusedVariables false
set_option linter.unusedSimpArgs false
namespace Go.Proofs.YtchmjpdkonfifaaDoor
open Go.Sx Go.RowKit
attribute [local irreducible] Ac Ex WL WC WX WP Gives

/- sponsion/sponsionref05.down -/
theorem down_ok (w : World) (x n : Nat) (t : Bool) (hx : x < 4294967296) (hn : n ≤ 32) :
    Gives Tryd.prog 111 #[.int .u32 (x : Int), .int .i64 (n : Int), .bool t] w fun u w1 => u = .int .u32 ((downs t x n : Nat) : Int) ∧ Keep nof w w1 := by
  have M0 := Mem.start w nof
  refine Gives.enter (n := 24) Tryd.func111 rfl Tryd.ntmps111 rfl (env := [(0, .int .u32 (x : Int)), (1, .int .i64 (n : Int)), (2, .bool t)]) rfl ?_
  refine WC.seq ?_
  refine WC.region ?_
  refine WL.ex rfl rfl rfl (Ex.asg rfl) ?_
  refine WL.nil ?_
  refine WX.next (?_)
  refine WC.seq ?_
  refine WC.seq ?_
  refine WC.region ?_
  refine WL.ex rfl rfl rfl (Ex.mv rfl) ?_
  refine WL.ex rfl rfl rfl (Ex.mv rfl) ?_
  refine WL.nil ?_
  refine WX.next (?_)
  refine WC.block ?_
  refine WC.loop (σ := Nat) (fun i => [(0, .int .u32 ((downs t x i : Nat) : Int)), (2, .bool t), (8, .int .i64 (n : Int)), (9, .int .i64 (i : Int))]) (fun i wr => i ≤ n ∧ Mem w wr nof []) (fun i => n - i) (0) ?_ (.cons rfl (.cons rfl (.cons rfl (.cons rfl (.nil))))) ?_
  · exact ⟨by omega, M0⟩
  rintro i w4 ⟨hi, M4⟩
  refine WC.seq ?_
  refine WC.region ?_
  refine WL.ex rfl rfl rfl (Ex.lss rfl rfl) ?_
  refine WL.nil ?_
  refine WX.next (?_)
  refine WC.seq ?_
  refine WC.cond_dec rfl (fun hin => ?_) (fun hin => ?_)
  · obtain ⟨y, hy⟩ : ∃ y, y = downs t x i := ⟨_, rfl⟩
    have hyl : y < 4294967296 := by rw [hy]; exact downs_lt hx t i
    have hs : downs t x (i + 1) = down1 y t := by rw [downs, hy]
    rw [← hy]
    refine WC.skip ?_
    refine WX.next (?_)
    refine WC.seq ?_
    refine WC.block ?_
    refine WC.seq ?_
    refine WC.region ?_
    refine WL.ex rfl rfl rfl (Ex.mv rfl) ?_
    refine WL.ex rfl rfl rfl (Ex.rem rfl rfl (by decide) (c := ((y % 2 : Nat) : Int)) (remN _ 2)) ?_
    refine WL.ex rfl rfl rfl (Ex.asg rfl) ?_
    refine WL.nil ?_
    refine WX.next (?_)
    refine WC.seq ?_
    refine WC.region ?_
    refine WL.ex rfl rfl rfl (Ex.mv rfl) ?_
    refine WL.ex rfl rfl rfl (Ex.quo rfl rfl (by decide) (c := ((y / 2 : Nat) : Int)) (by rw [show ((y : Int).tdiv 2) = ((y / 2 : Nat) : Int) from (Int.ofNat_tdiv y 2).symm]; exact u32w_lt _ (by omega))) ?_
    refine WL.ex rfl rfl rfl (Ex.asg rfl) ?_
    refine WL.nil ?_
    refine WX.next (?_)
    refine WC.seq ?_
    refine WC.region ?_
    refine WL.ex rfl rfl rfl (Ex.mv rfl) ?_
    refine WL.ex rfl rfl rfl (Ex.mv rfl) ?_
    rcases Bool.eq_false_or_eq_true t with ht | ht <;> subst ht
    ·
      refine WL.yes rfl rfl rfl rfl ?_
      refine WL.ex rfl rfl rfl (Ex.mv rfl) ?_
      refine WL.yes rfl rfl rfl rfl ?_
      refine WL.ex rfl rfl rfl (Ex.eqI rfl rfl) ?_
      refine WL.ex rfl rfl rfl (Ex.pickT rfl rfl) ?_
      refine WL.nil ?_
      refine WX.next (?_)
      refine WC.cond_dec rfl (fun hc19 => ?_) (fun hc19 => ?_)
      · skip
        refine WC.region ?_
        refine WL.ex rfl rfl rfl (Ex.mv rfl) ?_
        refine WL.ex rfl rfl rfl (Ex.add rfl rfl (c := ((y / 2 + 2147483648 : Nat) : Int)) (u32w_lt (y / 2 + 2147483648) (by omega))) ?_
        refine WL.ex rfl rfl rfl (Ex.asg rfl) ?_
        refine WL.nil ?_
        refine WX.normal_block (WX.next (?_))
        refine WC.region ?_
        refine WL.ex rfl rfl rfl (Ex.add rfl rfl (i64w _ (by omega) (by omega))) ?_
        refine WL.ex rfl rfl rfl (Ex.mv rfl) ?_
        refine WL.nil ?_
        refine WX.again (i + 1) ?_ ?_ (.cons (by first | rfl | exact congrArg (fun z : Nat => some (Value.int .u32 (z : Int))) (by rw [hs]; unfold down1; first | (rw [if_pos ⟨rfl, by omega⟩]) | (rw [if_neg (fun h => by have := h.2; omega)]) | (rw [if_neg (fun h => by cases h.1)]))) (.cons rfl (.cons rfl (.cons rfl .nil))))
        · (try dsimp only); omega
        · exact ⟨by omega, M4⟩
      · skip
        refine WC.skip ?_
        refine WX.normal_block (WX.next (?_))
        refine WC.region ?_
        refine WL.ex rfl rfl rfl (Ex.add rfl rfl (i64w _ (by omega) (by omega))) ?_
        refine WL.ex rfl rfl rfl (Ex.mv rfl) ?_
        refine WL.nil ?_
        refine WX.again (i + 1) ?_ ?_ (.cons (by first | rfl | exact congrArg (fun z : Nat => some (Value.int .u32 (z : Int))) (by rw [hs]; unfold down1; first | (rw [if_pos ⟨rfl, by omega⟩]) | (rw [if_neg (fun h => by have := h.2; omega)]) | (rw [if_neg (fun h => by cases h.1)]))) (.cons rfl (.cons rfl (.cons rfl .nil))))
        · (try dsimp only); omega
        · exact ⟨by omega, M4⟩
    ·
      refine WL.no rfl rfl rfl rfl rfl rfl ?_
      refine WL.no rfl rfl rfl rfl rfl rfl ?_
      refine WL.ex rfl rfl rfl (Ex.pickF rfl rfl) ?_
      refine WL.nil ?_
      refine WX.next (?_)
      refine WC.no rfl ?_
      refine WC.skip ?_
      refine WX.normal_block (WX.next (?_))
      refine WC.region ?_
      refine WL.ex rfl rfl rfl (Ex.add rfl rfl (i64w _ (by omega) (by omega))) ?_
      refine WL.ex rfl rfl rfl (Ex.mv rfl) ?_
      refine WL.nil ?_
      refine WX.again (i + 1) ?_ ?_ (.cons (by first | rfl | exact congrArg (fun z : Nat => some (Value.int .u32 (z : Int))) (by rw [hs]; unfold down1; first | (rw [if_pos ⟨rfl, by omega⟩]) | (rw [if_neg (fun h => by have := h.2; omega)]) | (rw [if_neg (fun h => by cases h.1)]))) (.cons rfl (.cons rfl (.cons rfl .nil))))
      · (try dsimp only); omega
      · exact ⟨by omega, M4⟩
  · obtain rfl : i = n := by omega
    refine WC.exit ?_
    refine WX.exit_then (WX.exit_then (WX.exit_block (WX.next (?_))))
    refine WC.seq ?_
    refine WC.region ?_
    refine WL.ex rfl rfl rfl (Ex.mv rfl) ?_
    refine WL.ex rfl rfl rfl (Ex.asg rfl) ?_
    refine WL.nil ?_
    refine WX.next (?_)
    refine WC.ret ?_
    refine WX.ret1 rfl rfl ?_
    exact ⟨rfl, M4.keep⟩

theorem downT_ok (w : World) (x n : Nat) (hx : x < 4294967296) (hn : n ≤ 32) :
    Gives Tryd.prog 111 #[.int .u32 (x : Int), .int .i64 (n : Int), .bool true] w fun u w1 => u = .int .u32 ((rotr n x : Nat) : Int) ∧ Keep nof w w1 := by
  have := down_ok w x n true hx hn
  rwa [downs_true x n hn] at this
theorem downF_ok (w : World) (x n : Nat) (hx : x < 4294967296) (hn : n ≤ 32) :
    Gives Tryd.prog 111 #[.int .u32 (x : Int), .int .i64 (n : Int), .bool false] w fun u w1 => u = .int .u32 ((x / 2 ^ n : Nat) : Int) ∧ Keep nof w w1 := by
  have := down_ok w x n false hx hn
  rwa [downs_false x n] at this

/- sponsion/sponsionref05.both -/
theorem both_ok (w : World) (a b c : Nat) (ha : a < 4294967296) (hb : b < 4294967296) (hc : c < 4294967296) :
    Gives Tryd.prog 110 #[.int .u32 (a : Int), .int .u32 (b : Int), .int .u32 (c : Int)] w fun u w1 => u = .int .u32 ((a ^^^ b ^^^ c : Nat) : Int) ∧ Keep nof w w1 := by
  have M0 := Mem.start w nof
  refine Gives.enter (n := 12) Tryd.func110 rfl Tryd.ntmps110 rfl (env := [(0, .int .u32 (a : Int)), (1, .int .u32 (b : Int)), (2, .int .u32 (c : Int))]) rfl ?_
  refine WC.seq ?_
  refine WC.region ?_
  refine WL.ex rfl rfl rfl (Ex.asg rfl) ?_
  refine WL.nil ?_
  refine WX.next (?_)
  refine WC.seq ?_
  refine WC.region ?_
  refine WL.ex rfl rfl rfl (Ex.mv rfl) ?_
  refine WL.ex rfl rfl rfl (Ex.mv rfl) ?_
  refine WL.ex rfl rfl rfl (Ex.bxor rfl rfl (bxor32 ha hb rfl)) ?_
  refine WL.ex rfl rfl rfl (Ex.mv rfl) ?_
  refine WL.ex rfl rfl rfl (Ex.bxor rfl rfl (bxor32 (xor32 ha hb) hc rfl)) ?_
  refine WL.ex rfl rfl rfl (Ex.asg rfl) ?_
  refine WL.nil ?_
  refine WX.next (?_)
  refine WC.ret ?_
  refine WX.ret1 rfl rfl ?_
  exact ⟨rfl, M0.keep⟩

def zerosK (n : Nat) : Nat := (119 - n % 64) % 64
def padA (b : List UInt8) (k : Nat) : List UInt8 := b ++ [128] ++ List.replicate k 0
theorem padA_length (b : List UInt8) (k : Nat) : (padA b k).length = b.length + 1 + k := by simp [padA]; omega
theorem padA_succ (b : List UInt8) (k : Nat) : padA b k ++ [0] = padA b (k + 1) := by rw [padA, padA, List.append_assoc, ← List.replicate_succ']
def padB (b : List UInt8) (i : Nat) : List UInt8 := b ++ tailTo b.length i
theorem padB_0 (b : List UInt8) : padA b (zerosK b.length) = padB b 0 := by simp [padA, padB, tailTo, zerosK]
theorem padB_succ (b : List UInt8) {i : Nat} (h : i < 8) : padB b i ++ [UInt8.ofNat (8 * b.length / 2 ^ (56 - 8 * i))] = padB b (i + 1) := by rw [padB, List.append_assoc, tailTo_succ _ h, padB]
theorem padB_8 (b : List UInt8) : padB b 8 = pad b := by rw [padB, tailTo_8, pad]
theorem unit_pow {i : Nat} (h : i < 8) : 72057594037927936 / 256 ^ i = 2 ^ (56 - 8 * i) := by
  rcases (by omega : i = 0 ∨ i = 1 ∨ i = 2 ∨ i = 3 ∨ i = 4 ∨ i = 5 ∨ i = 6 ∨ i = 7) with rfl | rfl | rfl | rfl | rfl | rfl | rfl | rfl <;> decide
theorem unit_8 : 72057594037927936 / 256 ^ 8 = 0 := by decide

/- sponsion/sponsionref05.Padded -/
theorem padded_ok (w : World) (A : Option Addr) (c : Nat) (b : List UInt8) (hr : Rd w A (bytesV b)) (hb : b.length ≤ 1000000000000) :
    Gives Tryd.prog 109 #[.slice A b.length c] w fun u w1 => New w w1 (row u 5 1 (pad b).length (bytesV (pad b))) := by
  have M0 := Mem.start w nof
  refine Gives.enter (n := 36) Tryd.func109 rfl Tryd.ntmps109 rfl (env := [(0, .slice A b.length c)]) rfl ?_
  refine WC.seq ?_
  refine WC.region ?_
  refine WL.ex rfl rfl rfl (Ex.asg rfl) ?_
  refine WL.nil ?_
  refine WX.next (?_)
  refine WC.seq ?_
  refine WC.region ?_
  refine WL.ac rfl rfl rfl (Ac.bs0 M0 Tryd.underlying112 sz5) ?_; rintro v2 w2 ⟨g2, rfl, hg2, K2, M2⟩
  refine WL.ex rfl rfl rfl (Ex.mv rfl) ?_
  refine WL.ac rfl rfl rfl (Ac.app M2 el112 rfl rfl (i := 0) rfl (by simp) (M2.rd hr) (bytesV_one _) (by omega) (by simp [maxLen]; omega)) ?_; rintro v4 w4 ⟨K4, M4⟩
  try dsimp only [List.set] at M4
  obtain ⟨v1, rfl⟩ : ∃ v1, v1 = v4 := ⟨_, rfl⟩
  simp only [Nat.zero_add, List.nil_append] at M4
  refine WL.ex rfl rfl rfl (Ex.asg rfl) ?_
  refine WL.nil ?_
  refine WX.next (?_)
  refine WC.seq ?_
  refine WC.region ?_
  refine WL.ex rfl rfl rfl (Ex.mv rfl) ?_
  refine WL.ac rfl rfl rfl (Ac.bs M4 (parts := [(0, .const (.int .u8 128))]) (l := bytesV [128]) rfl rfl (LitS.one el112 rfl)) ?_; rintro v7 w7 ⟨g7, rfl, hg7, K7, M7⟩
  refine WL.ac rfl rfl rfl (Ac.app M7 el112 rfl rfl (i := 1) rfl rfl (M7.rdw (i := 0) rfl) (by first | exact bytesV_one _ | simp [Value.oneCell']) (by omega) (by simp [maxLen]; omega)) ?_; rintro v8 w8 ⟨K8, M8⟩
  try dsimp only [List.set] at M8
  obtain ⟨v2, rfl⟩ : ∃ v2, v2 = v8 := ⟨_, rfl⟩
  rw [← bytesV_append] at M8
  replace M8 := M8.eqv (i := 1) rfl (r' := row v2 5 1 (padA b 0).length (bytesV (padA b 0))) (by simp [padA])
  try dsimp only [List.set] at M8
  refine WL.ex rfl rfl rfl (Ex.asg rfl) ?_
  refine WL.nil ?_
  refine WX.next (?_)
  refine WC.seq ?_
  refine WC.block ?_
  refine WC.loop (σ := Nat × Value) (fun s => [(0, .slice A b.length c), (3, s.2)]) (fun s wr => s.1 ≤ zerosK b.length ∧ Mem w wr nof [row s.2 5 1 (padA b s.1).length (bytesV (padA b s.1))]) (fun s => zerosK b.length - s.1) (((0, v2) : Nat × Value)) ?_ (.cons rfl (.cons rfl (.nil))) ?_
  · exact ⟨by simp, (Mem.sub M8 (.cons _ (.refl _)))⟩
  rintro ⟨k, v3⟩ w10 ⟨hk, M10⟩
  dsimp only at hk M10
  refine WC.sub (env' := [(0, .slice A b.length c), (3, v3)]) (.cons rfl (.cons rfl (.nil))) ?_
  refine WC.seq ?_
  refine WC.seq ?_
  refine WC.region ?_
  refine WL.ex rfl rfl rfl (Ex.mv rfl) ?_
  have hpl := padA_length b k
  obtain ⟨A3, c3, hv3⟩ := own_slice (M10.get (i := 0) rfl)
  subst hv3
  refine WL.ex rfl rfl rfl (Ex.len Tryd.underlying112 rfl) ?_
  refine WL.ex rfl rfl rfl (Ex.rem rfl rfl (by decide) (c := (((padA b k).length % 64 : Nat) : Int)) (remN _ 64)) ?_
  refine WL.ex rfl rfl rfl (Ex.neI rfl rfl) ?_
  refine WL.nil ?_
  refine WX.next (?_)
  refine WC.cond rfl (fun h56 => ?_) (fun h56 => ?_)
  · have hz56 : ¬ (padA b k).length % 64 = 56 := by intro h; simp [h] at h56
    have hlt : k < zerosK b.length := by rw [hpl] at hz56; unfold zerosK at hk ⊢; omega
    have hk63 : k < 64 := by unfold zerosK at hlt; omega
    refine WC.skip ?_
    refine WX.next (?_)
    refine WC.block ?_
    refine WC.region ?_
    refine WL.ex rfl rfl rfl (Ex.mv rfl) ?_
    refine WL.ac rfl rfl rfl (Ac.bs M10 (parts := [(0, .const (.int .u8 0))]) (l := bytesV [0]) rfl rfl (LitS.one el112 rfl)) ?_; rintro v16 w16 ⟨g16, rfl, hg16, K16, M16⟩
    refine WL.ac rfl rfl rfl (Ac.app M16 el112 rfl rfl (i := 1) rfl rfl (M16.rdw (i := 0) rfl) (by first | exact bytesV_one _ | simp [Value.oneCell']) (by omega) (by simp [maxLen]; omega)) ?_; rintro v17 w17 ⟨K17, M17⟩
    try dsimp only [List.set] at M17
    obtain ⟨v4, rfl⟩ : ∃ v4, v4 = v17 := ⟨_, rfl⟩
    rw [← bytesV_append, padA_succ] at M17
    replace M17 := M17.eqv (i := 1) rfl (r' := row v4 5 1 (padA b (k + 1)).length (bytesV (padA b (k + 1)))) (by rw [padA_length, padA_length]; rfl)
    try dsimp only [List.set] at M17
    refine WL.ex rfl rfl rfl (Ex.asg rfl) ?_
    refine WL.nil ?_
    refine WX.normal_block (?_)
    refine WX.again (((k + 1, v4) : Nat × Value)) ?_ ?_ (.cons rfl (.cons rfl (.nil)))
    · dsimp only; omega
    · exact ⟨by dsimp only; omega, (Mem.sub M17 (.cons _ (.refl _)))⟩
  · have hz56 : (padA b k).length % 64 = 56 := by
      have : ((padA b k).length % 64 : Int) = 56 := by simpa using h56
      omega
    obtain rfl : k = zerosK b.length := by rw [hpl] at hz56; unfold zerosK at hk ⊢; omega
    rw [padB_0] at M10 ⊢
    refine WC.exit ?_
    refine WX.exit_then (WX.exit_then (WX.exit_block (WX.next (?_))))
    refine WC.seq ?_
    refine WC.region ?_
    refine WL.ex rfl rfl rfl (Ex.mv rfl) ?_
    refine WL.ex rfl rfl rfl (Ex.len Tryd.underlying112 rfl) ?_
    refine WL.ex rfl rfl rfl (Ex.cvI Tryd.underlying3 Tryd.underlying23 rfl (u64w_lt _ (by omega))) ?_
    refine WL.ex rfl rfl rfl (Ex.mul rfl rfl (c := ((8 * b.length : Nat) : Int)) (by rw [show (b.length : Int) * 8 = ((8 * b.length : Nat) : Int) by omega]; exact u64w_lt _ (by omega))) ?_
    refine WL.ex rfl rfl rfl (Ex.asg rfl) ?_
    refine WL.nil ?_
    refine WX.next (?_)
    refine WC.seq ?_
    refine WC.region ?_
    refine WL.ex rfl rfl rfl (Ex.asg rfl) ?_
    refine WL.nil ?_
    refine WX.next (?_)
    refine WC.seq ?_
    refine WC.block ?_
    refine WC.loop (σ := Nat × Value) (fun s => [(3, s.2), (4, .int .u64 ((8 * b.length : Nat) : Int)), (5, .int .u64 ((72057594037927936 / 256 ^ s.1 : Nat) : Int))]) (fun s wr => s.1 ≤ 8 ∧ Mem w wr nof [row s.2 5 1 (padB b s.1).length (bytesV (padB b s.1))]) (fun s => 8 - s.1) (((0, .slice A3 (padB b 0).length c3) : Nat × Value)) ?_ (.cons rfl (.cons rfl (.cons (congrArg some (congrArg (Value.int .u64) (by simp))) .nil))) ?_
    · exact ⟨by simp, M10⟩
    rintro ⟨i, v5⟩ w25 ⟨hi, M25⟩
    dsimp only at hi M25
    refine WC.sub (env' := [(3, v5), (4, .int .u64 ((8 * b.length : Nat) : Int)), (5, .int .u64 ((72057594037927936 / 256 ^ i : Nat) : Int))]) (.cons rfl (.cons rfl (.cons rfl (.nil)))) ?_
    refine WC.seq ?_
    refine WC.seq ?_
    refine WC.region ?_
    refine WL.ex rfl rfl rfl (Ex.mv rfl) ?_
    refine WL.ex rfl rfl rfl (Ex.gtr rfl rfl) ?_
    refine WL.nil ?_
    refine WX.next (?_)
    refine WC.cond_dec rfl (fun hu => ?_) (fun hu => ?_)
    · have hi8 : i < 8 := by
        rcases Nat.lt_or_ge i 8 with h | h
        · exact h
        · obtain rfl : i = 8 := by omega
          rw [unit_8] at hu
          exact absurd hu (by decide)
      have hup := unit_pow hi8
      have hpb : (padB b i).length = b.length + (1 + (119 - b.length % 64) % 64 + min i 8) := by rw [padB, List.length_append, tailTo_length]
      refine WC.skip ?_
      refine WX.next (?_)
      refine WC.block ?_
      refine WC.seq ?_
      refine WC.region ?_
      refine WL.ex rfl rfl rfl (Ex.mv rfl) ?_
      refine WL.ex rfl rfl rfl (Ex.mv rfl) ?_
      refine WL.ex rfl rfl rfl (Ex.mv rfl) ?_
      refine WL.ex rfl rfl rfl (Ex.quo rfl rfl (by rw [hup]; exact_mod_cast Nat.ne_of_gt (Nat.pow_pos (by decide))) (c := ((8 * b.length / 2 ^ (56 - 8 * i) : Nat) : Int)) (by rw [hup]; exact u64quo _ _ (by omega))) ?_
      refine WL.ex rfl rfl rfl (Ex.rem rfl rfl (by decide) (c := ((8 * b.length / 2 ^ (56 - 8 * i) % 256 : Nat) : Int)) (remN _ 256)) ?_
      refine WL.ex rfl rfl rfl (Ex.cvI Tryd.underlying23 Tryd.underlying5 rfl (c := ((UInt8.ofNat (8 * b.length / 2 ^ (56 - 8 * i))).toNat : Int)) (by rw [u8b, ofNat_mod])) ?_
      refine WL.ac rfl rfl rfl (Ac.bs M25 (parts := [(0, .tmp 30)]) rfl rfl (LitS.one el112 rfl)) ?_; rintro v34 w34 ⟨g34, rfl, hg34, K34, M34⟩
      refine WL.ac rfl rfl rfl (Ac.app M34 el112 rfl rfl (i := 1) rfl rfl (M34.rdw (i := 0) rfl) (by first | exact bytesV_one _ | simp [Value.oneCell']) (by omega) (by simp [maxLen]; omega)) ?_; rintro v35 w35 ⟨K35, M35⟩
      try dsimp only [List.set] at M35
      obtain ⟨v6, rfl⟩ : ∃ v6, v6 = v35 := ⟨_, rfl⟩
      rw [bytesV_snoc, len_snoc, padB_succ _ hi8] at M35
      refine WL.ex rfl rfl rfl (Ex.asg rfl) ?_
      refine WL.nil ?_
      refine WX.next (?_)
      refine WC.region ?_
      refine WL.ex rfl rfl rfl (Ex.mv rfl) ?_
      refine WL.ex rfl rfl rfl (Ex.quo rfl rfl (by decide) (c := ((72057594037927936 / 256 ^ (i + 1) : Nat) : Int)) (by rw [Nat.pow_succ, ← Nat.div_div_eq_div_mul]; exact u64quo _ 256 (Nat.lt_of_le_of_lt (Nat.div_le_self _ _) (by decide)))) ?_
      refine WL.ex rfl rfl rfl (Ex.asg rfl) ?_
      refine WL.nil ?_
      refine WX.normal_block (?_)
      refine WX.again (((i + 1, v6) : Nat × Value)) ?_ ?_ (.cons rfl (.cons rfl (.cons rfl (.nil))))
      · dsimp only; omega
      · exact ⟨by dsimp only; omega, (Mem.sub M35 (.cons _ (.refl _)))⟩
    · have hi8 : i = 8 := by
        rcases Nat.lt_or_ge i 8 with h | h
        · rw [unit_pow h] at hu
          exact absurd (by exact_mod_cast Nat.pow_pos (by decide)) hu
        · omega
      subst hi8
      rw [padB_8] at M25
      refine WC.exit ?_
      refine WX.exit_then (WX.exit_then (WX.exit_block (WX.next (?_))))
      refine WC.seq ?_
      refine WC.region ?_
      refine WL.ex rfl rfl rfl (Ex.mv rfl) ?_
      refine WL.ex rfl rfl rfl (Ex.asg rfl) ?_
      refine WL.nil ?_
      refine WX.next (?_)
      refine WC.ret ?_
      refine WX.ret1 rfl rfl ?_
      exact (M25).toNew

abbrev TabR (w : World) : Prop := Rd w (some ⟨0, 0, none⟩) (u32V kTab)
theorem TabR.at_k {w : World} (h : TabR w) {i : Nat} (hi : i < 64) : w.cell? ⟨0, 0 + ((i : Nat) : Int).toNat * 1, none⟩ = some (.int .u32 ((kTab.getD i 0 : Nat) : Int)) :=
  Rd.at1 h (u32V_at (by simpa [kTab] using hi) (by simp))
/-- The bytes of the sum, the first i words whole, of the next one the last m bytes. -/
def outP (h : List Nat) (i m : Nat) : List UInt8 := (List.range 32).map fun j => if j / 4 < i ∨ (j / 4 = i ∧ 4 ≤ j % 4 + m) then UInt8.ofNat (h.getD (j / 4) 0 / 2 ^ (24 - 8 * (j % 4))) else 0
theorem outP_0 (h : List Nat) : outP h 0 0 = List.replicate 32 0 := by
  apply List.ext_getElem
  · simp [outP]
  · intro j h1 h2
    simp only [outP, List.getElem_map, List.getElem_range, List.getElem_replicate]
    rw [if_neg (by omega)]
theorem outP_4 (h : List Nat) (i : Nat) : outP h i 4 = outP h (i + 1) 0 := by
  apply List.map_congr_left
  intro j hj
  have h1 : (j / 4 < i ∨ (j / 4 = i ∧ 4 ≤ j % 4 + 4)) ↔ (j / 4 < i + 1 ∨ (j / 4 = i + 1 ∧ 4 ≤ j % 4 + 0)) := by omega
  simp only [h1]
theorem outP_8 (h : List Nat) : outP h 8 0 = outB h := by
  apply List.map_congr_left
  intro j hj
  have := List.mem_range.1 hj
  rw [if_pos (by omega)]
theorem outP_set (h : List Nat) {i m : Nat} (hi : i < 8) (hm : m < 4) : (outP h i m).set (4 * i + (3 - m)) (UInt8.ofNat (h.getD i 0 / 2 ^ (8 * m))) = outP h i (m + 1) := by
  apply List.ext_getElem
  · simp [outP]
  · intro j h1 h2
    simp only [outP, List.getElem_set, List.getElem_map, List.getElem_range]
    split
    · rename_i e
      rw [if_pos (by omega), show j / 4 = i by omega, show 24 - 8 * (j % 4) = 8 * m by omega]
    · rename_i e
      have h3 : (j / 4 < i ∨ (j / 4 = i ∧ 4 ≤ j % 4 + m)) ↔ (j / 4 < i ∨ (j / 4 = i ∧ 4 ≤ j % 4 + (m + 1))) := by omega
      simp only [h3]
theorem len4' {l : List UInt8} (h : l.length = 4) : ∃ a b c d, l = [a, b, c, d] := by
  match l, h with
  | [a, b, c, d], _ => exact ⟨a, b, c, d, rfl⟩
theorem beVal4 (a b c d : UInt8) : beVal [a, b, c, d] = a.toNat * 16777216 + b.toNat * 65536 + c.toNat * 256 + d.toNat := by simp [beVal]; omega

/- sponsion/sponsionref05.Sum -/
theorem rsum_ok (w : World) (A : Option Addr) (c : Nat) (b : List UInt8) (hr : Rd w A (bytesV b)) (hT : TabR w) (hb : b.length ≤ 1000000000000) :
    Gives Tryd.prog 94 #[.slice A b.length c] w fun u w1 => u = .agg (bytesV (sha b)).toArray ∧ Keep nof w w1 := by
  have M0 := Mem.start w nof
  have hs32 : H32 (sha b) := sha_length b
  have hpm := pad_mod b
  have hpl := pad_length b
  refine Gives.enter (n := 227) Tryd.func94 rfl Tryd.ntmps94 rfl (env := [(0, .slice A b.length c)]) rfl ?_
  refine WC.seq ?_
  refine WC.region ?_
  refine WL.ac rfl rfl rfl (Ac.alloc M0 (l := bytesV (List.replicate 32 0)) (by kernel_rfl)) ?_; rintro v1 w1 ⟨g2, rfl, hg1, K1, M1⟩
  refine WL.nil ?_
  refine WX.next (?_)
  refine WC.seq ?_
  refine WC.region ?_
  refine WL.ex rfl rfl rfl (Ex.bldS bd164 (parts := [(0, .const (.int .u32 1779033703)), (1, .const (.int .u32 3144134277)), (2, .const (.int .u32 1013904242)), (3, .const (.int .u32 2773480762)), (4, .const (.int .u32 1359893119)), (5, .const (.int .u32 2600822924)), (6, .const (.int .u32 528734635)), (7, .const (.int .u32 1541459225))]) _ (l := u32V hBeg) rfl rfl rfl (bld8 (x0 := 1779033703) (x1 := 3144134277) (x2 := 1013904242) (x3 := 2773480762) (x4 := 1359893119) (x5 := 2600822924) (x6 := 528734635) (x7 := 1541459225))) ?_
  refine WL.ac rfl rfl rfl (Ac.alloc M1 (l := u32V (List.replicate 8 0)) (by kernel_rfl)) ?_; rintro v3 w3 ⟨gh, rfl, hg3, K3, M3⟩
  refine WL.ac0 rfl rfl (Ac.stA M3 ty164 rfl rfl rfl rfl (u32V_one _) (i := 0) rfl (by simp [hBeg])) ?_; rintro v4 w4 ⟨K4, M4⟩
  try dsimp only [List.set] at M4
  rw [splice_all _ _ (by simp [hBeg])] at M4
  refine WL.nil ?_
  refine WX.next (?_)
  refine WC.seq ?_
  refine WC.region ?_
  refine WL.ex rfl rfl rfl (Ex.mv rfl) ?_
  refine WL.ac rfl rfl rfl (Ac.call rfl Tryd.func109 nm109 rfl (padded_ok w4 A c b (M4.rd hr) hb)) ?_; rintro v6 w6 N6
  have M6 := M4.new N6
  obtain ⟨Ap, cp, rfl⟩ := own_slice (M6.get (i := 0) rfl)
  obtain ⟨ga, rfl⟩ := own_some (M6.get (i := 0) rfl) (by omega)
  have hcp := (dat_of_row (M6.get (i := 0) rfl)).2.2
  refine WL.ex rfl rfl rfl (Ex.asg rfl) ?_
  refine WL.nil ?_
  refine WX.next (?_)
  refine WC.seq ?_
  refine WC.seq ?_
  refine WC.region ?_
  refine WL.ex rfl rfl rfl (Ex.asg rfl) ?_
  refine WL.nil ?_
  refine WX.next (?_)
  refine WC.block ?_
  refine WC.loop (σ := Nat) (fun k => [(2, .pointer (some ⟨g2, 0, none⟩)), (3, .pointer (some ⟨gh, 0, none⟩)), (4, .slice (some ⟨ga, 0, none⟩) (pad b).length cp), (5, .int .i64 ((64 * k : Nat) : Int))]) (fun k wr => 64 * k ≤ (pad b).length ∧ Mem w wr nof [row (.slice (some ⟨ga, 0, none⟩) (pad b).length cp) 5 1 (pad b).length (bytesV (pad b)), blk gh (u32V (comps k hBeg (pad b))) 164, blk g2 (bytesV (List.replicate 32 0)) 31]) (fun k => (pad b).length - 64 * k) (0) ?_ (.cons rfl (.cons rfl (.cons rfl (.cons rfl (.nil))))) ?_
  · exact ⟨by omega, M6⟩
  rintro k w9 ⟨hk, M9⟩
  refine WC.seq ?_
  refine WC.seq ?_
  refine WC.region ?_
  refine WL.ex rfl rfl rfl (Ex.mv rfl) ?_
  refine WL.ex rfl rfl rfl (Ex.mv rfl) ?_
  refine WL.ex rfl rfl rfl (Ex.len Tryd.underlying112 rfl) ?_
  refine WL.ex rfl rfl rfl (Ex.lss rfl rfl) ?_
  refine WL.nil ?_
  refine WX.next (?_)
  refine WC.cond_dec rfl (fun hat => ?_) (fun hat => ?_)
  · have hk64 : 64 * k + 64 ≤ (pad b).length := by omega
    obtain ⟨p, hp⟩ : ∃ p, p = ((pad b).drop (64 * k)).take 64 := ⟨_, rfl⟩
    have hpl64 : p.length = 64 := by rw [hp]; simp; omega
    have hh8 := comps_ok k hBeg_ok (pad b)
    obtain ⟨hh, hhe⟩ : ∃ hh, hh = comps k hBeg (pad b) := ⟨_, rfl⟩
    have hcs : comps (k + 1) hBeg (pad b) = comp hh p := by rw [comps_succ, hhe, hp]
    rw [← hhe] at hh8 M9
    refine WC.skip ?_
    refine WX.next (?_)
    refine WC.seq ?_
    refine WC.block ?_
    refine WC.seq ?_
    refine WC.region ?_
    refine WL.ac rfl rfl rfl (Ac.alloc M9 (l := u32V (List.replicate 64 0)) (by kernel_rfl)) ?_; rintro v14 w14 ⟨gw, rfl, hg14, K14, M14⟩
    refine WL.nil ?_
    refine WX.next (?_)
    refine WC.seq ?_
    refine WC.seq ?_
    refine WC.region ?_
    refine WL.ex rfl rfl rfl (Ex.mv rfl) ?_
    refine WL.nil ?_
    refine WX.next (?_)
    refine WC.block ?_
    refine WC.loop (σ := Nat) (fun i => [(2, .pointer (some ⟨g2, 0, none⟩)), (3, .pointer (some ⟨gh, 0, none⟩)), (4, .slice (some ⟨ga, 0, none⟩) (pad b).length cp), (5, .int .i64 ((64 * k : Nat) : Int)), (6, .pointer (some ⟨gw, 0, none⟩)), (29, .int .i64 (i : Int))]) (fun i wr => i ≤ 64 ∧ Mem w wr nof [blk gw (u32V (wAt p i)) 165, row (.slice (some ⟨ga, 0, none⟩) (pad b).length cp) 5 1 (pad b).length (bytesV (pad b)), blk gh (u32V hh) 164, blk g2 (bytesV (List.replicate 32 0)) 31]) (fun i => 64 - i) (0) ?_ (.cons rfl (.cons rfl (.cons rfl (.cons rfl (.cons rfl (.cons rfl (.nil))))))) ?_
    · exact ⟨by decide, M14⟩
    rintro i w16 ⟨hi, M16⟩
    refine WC.seq ?_
    refine WC.region ?_
    refine WL.ex rfl rfl rfl (Ex.lss rfl rfl) ?_
    refine WL.nil ?_
    refine WX.next (?_)
    refine WC.seq ?_
    refine WC.cond_dec rfl (fun hi64 => ?_) (fun hi64 => ?_)
    · have hi64b : i < 64 := by omega
      refine WC.skip ?_
      refine WX.next (?_)
      refine WC.seq ?_
      refine WC.block ?_
      refine WC.seq ?_
      refine WC.region ?_
      refine WL.ex rfl rfl rfl (Ex.mv rfl) ?_
      refine WL.ex rfl rfl rfl (Ex.asg rfl) ?_
      refine WL.nil ?_
      refine WX.next (?_)
      refine WC.seq ?_
      refine WC.seq ?_
      refine WC.region ?_
      refine WL.ex rfl rfl rfl (Ex.mv rfl) ?_
      refine WL.ex rfl rfl rfl (Ex.lss rfl rfl) ?_
      refine WL.nil ?_
      refine WX.next (?_)
      refine WC.cond_dec rfl (fun hlo => ?_) (fun hlo => ?_)
      · have hlo2 : i < 16 := by omega
        refine WC.seq ?_
        refine WC.region ?_
        refine WL.ex rfl rfl rfl (Ex.mv rfl) ?_
        refine WL.ex rfl rfl rfl (Ex.mv rfl) ?_
        refine WL.ex rfl rfl rfl (Ex.mv rfl) ?_
        refine WL.ex rfl rfl rfl (Ex.mul rfl rfl (c := ((4 * i : Nat) : Int)) (by rw [i64w _ (by omega) (by omega)]; omega)) ?_
        refine WL.ex rfl rfl rfl (Ex.add rfl rfl (c := ((64 * k + 4 * i : Nat) : Int)) (by rw [i64w _ (by omega) (by omega)]; omega)) ?_
        refine WL.ex rfl rfl rfl (Ex.mv rfl) ?_
        refine WL.ex rfl rfl rfl (Ex.mv rfl) ?_
        refine WL.ex rfl rfl rfl (Ex.mul rfl rfl (c := ((4 * i : Nat) : Int)) (by rw [i64w _ (by omega) (by omega)]; omega)) ?_
        refine WL.ex rfl rfl rfl (Ex.add rfl rfl (c := ((64 * k + 4 * i : Nat) : Int)) (by rw [i64w _ (by omega) (by omega)]; omega)) ?_
        refine WL.ex rfl rfl rfl (Ex.add rfl rfl (c := ((64 * k + 4 * i + 4 : Nat) : Int)) (by rw [i64w _ (by omega) (by omega)]; omega)) ?_
        refine WL.ex rfl rfl rfl (Ex.sllhN Tryd.underlying112 sz5 rfl rfl rfl (by omega) (by omega) (by omega)) ?_
        rw [show 64 * k + 4 * i + 4 - (64 * k + 4 * i) = 4 by omega]
        obtain ⟨c0, c1, c2, c3, hq⟩ := len4' (l := (p.drop (4 * i)).take 4) (by simp; omega)
        have hqv : beVal ((p.drop (4 * i)).take 4) = c0.toNat * 16777216 + c1.toNat * 65536 + c2.toNat * 256 + c3.toNat := by rw [hq, beVal4]
        have hq4 : ∀ {w1 : World}, Keep nof w16 w1 → Rd w1 (some ⟨ga, 0 + (64 * k + 4 * i) * 1, none⟩) (bytesV [c0, c1, c2, c3]) := fun K => by
          have h1 := (((M16.rdr (i := 1) rfl).keep0 K).drop (64 * k + 4 * i)).take 4
          simp only [Option.map_some, add0] at h1
          rw [← hq, hp, Nat.mul_one]
          have h2 : ((bytesV (pad b)).drop (64 * k + 4 * i)).take 4 = bytesV (((((pad b).drop (64 * k)).take 64).drop (4 * i)).take 4) := by
            simp only [bytesV, ← List.map_drop, ← List.map_take]
            congr 1
            rw [List.drop_take, List.drop_drop, List.take_take, Nat.min_eq_left (by omega)]
          rwa [h2] at h1
        have hb0 := c0.toNat_lt
        have hb1 := c1.toNat_lt
        have hb2 := c2.toNat_lt
        have hb3 := c3.toNat_lt
        refine WL.ex rfl rfl rfl (Ex.asg rfl) ?_
        refine WL.nil ?_
        refine WX.next (?_)
        refine WC.seq ?_
        refine WC.draw (Keep nof w16.drew) [24] (.one 0 0 (.one 1 0 (.one 2 0 (.one 6 0 (.one 7 0 (.one 12 0 (.one 13 0 (.one 18 0 (.one 19 0 (.one 3 1 (.one 4 0 (.one 5 0 (.one 8 1 (.one 9 0 (.one 10 0 (.one 11 0 (.one 14 1 (.one 15 0 (.one 16 0 (.one 17 0 (.one 20 1 (.one 21 0 (.one 22 0 (.one 23 0 (.one 24 2 .nil))))))))))))))))))))))))) mixed (by kernel_rfl) (by kernel_rfl) (by kernel_rfl) (HQ.then_ (HQ.then_ (HQ.block (HQ.then_ (HQ.then_ (HQ.block (HQ.then_ (HQ.block (HQ.then_ (HQ.then_ (HQ.block (HQ.then_ HQ.body)))))))))))) ?_
        obtain ⟨w34, hw34⟩ : ∃ v, v = w16.drew := ⟨_, rfl⟩
        have D34 : Keep nof w16 w34 := by rw [hw34]; exact Keep.drew _ _
        have M34 := M16.step D34
        rw [← hw34]; clear hw34
        refine WP.p rfl rfl rfl rfl (fun _ => Ex.mv rfl) ?_
        refine WP.p rfl rfl rfl rfl (fun _ => Ex.mv rfl) ?_
        refine WP.p rfl rfl rfl rfl (fun _ => Ex.ia Tryd.underlying112 sz5 rfl rfl ⟨by omega, by omega⟩) ?_
        refine WP.p rfl rfl rfl rfl (fun _ => Ex.mv rfl) ?_
        refine WP.p rfl rfl rfl rfl (fun _ => Ex.ia Tryd.underlying112 sz5 rfl rfl ⟨by omega, by omega⟩) ?_
        refine WP.p rfl rfl rfl rfl (fun _ => Ex.mv rfl) ?_
        refine WP.p rfl rfl rfl rfl (fun _ => Ex.ia Tryd.underlying112 sz5 rfl rfl ⟨by omega, by omega⟩) ?_
        refine WP.p rfl rfl rfl rfl (fun _ => Ex.mv rfl) ?_
        refine WP.p rfl rfl rfl rfl (fun _ => Ex.ia Tryd.underlying112 sz5 rfl rfl ⟨by omega, by omega⟩) ?_
        refine WP.q (Keep.refl _ _) rfl rfl rfl rfl (fun w' hS => Ex.load ty5 rfl (Rd.at1 (u := byteV c0) (hq4 (D34.trans hS)) (j := 0) rfl)) ?_
        refine WP.p rfl rfl rfl rfl (fun _ => Ex.cvI Tryd.underlying5 Tryd.underlying46 rfl (u32w_lt _ (by omega))) ?_
        refine WP.p rfl rfl rfl rfl (fun _ => Ex.mul rfl rfl (c := ((c0.toNat * 16777216 : Nat) : Int)) (u32w_lt (c0.toNat * 16777216) (by omega))) ?_
        refine WP.q (Keep.refl _ _) rfl rfl rfl rfl (fun w' hS => Ex.load ty5 rfl (Rd.at1 (u := byteV c1) (hq4 (D34.trans hS)) (j := 1) rfl)) ?_
        refine WP.p rfl rfl rfl rfl (fun _ => Ex.cvI Tryd.underlying5 Tryd.underlying46 rfl (u32w_lt _ (by omega))) ?_
        refine WP.p rfl rfl rfl rfl (fun _ => Ex.mul rfl rfl (c := ((c1.toNat * 65536 : Nat) : Int)) (u32w_lt (c1.toNat * 65536) (by omega))) ?_
        refine WP.p rfl rfl rfl rfl (fun _ => Ex.add rfl rfl (c := ((c0.toNat * 16777216 + c1.toNat * 65536 : Nat) : Int)) (u32w_lt (c0.toNat * 16777216 + c1.toNat * 65536) (by omega))) ?_
        refine WP.q (Keep.refl _ _) rfl rfl rfl rfl (fun w' hS => Ex.load ty5 rfl (Rd.at1 (u := byteV c2) (hq4 (D34.trans hS)) (j := 2) rfl)) ?_
        refine WP.p rfl rfl rfl rfl (fun _ => Ex.cvI Tryd.underlying5 Tryd.underlying46 rfl (u32w_lt _ (by omega))) ?_
        refine WP.p rfl rfl rfl rfl (fun _ => Ex.mul rfl rfl (c := ((c2.toNat * 256 : Nat) : Int)) (u32w_lt (c2.toNat * 256) (by omega))) ?_
        refine WP.p rfl rfl rfl rfl (fun _ => Ex.add rfl rfl (c := ((c0.toNat * 16777216 + c1.toNat * 65536 + c2.toNat * 256 : Nat) : Int)) (u32w_lt (c0.toNat * 16777216 + c1.toNat * 65536 + c2.toNat * 256) (by omega))) ?_
        refine WP.q (Keep.refl _ _) rfl rfl rfl rfl (fun w' hS => Ex.load ty5 rfl (Rd.at1 (u := byteV c3) (hq4 (D34.trans hS)) (j := 3) rfl)) ?_
        refine WP.p rfl rfl rfl rfl (fun _ => Ex.cvI Tryd.underlying5 Tryd.underlying46 rfl (u32w_lt _ (by omega))) ?_
        refine WP.p rfl rfl rfl rfl (fun _ => Ex.add rfl rfl (c := ((beVal ((p.drop (4 * i)).take 4) : Nat) : Int)) (by rw [hqv]; exact u32w_lt (c0.toNat * 16777216 + c1.toNat * 65536 + c2.toNat * 256 + c3.toNat) (by omega))) ?_
        refine WP.p rfl rfl rfl rfl (fun _ => Ex.iaA Tryd.underlying165 sz46 rfl rfl ⟨by omega, by omega⟩) ?_
        refine WP.a0 rfl rfl rfl (Ac.st M34 ty46 rfl rfl rfl (i := 0) rfl (by simp [(wAt_ok p i).1]; omega)) ?_; rintro v59 w59 ⟨K59, M59⟩; refine .inl ⟨rfl, Keep nof w59, ?_⟩
        try dsimp only [List.set] at M59
        simp only [Int.toNat_natCast, Nat.mul_one, Nat.zero_add] at M59
        rw [u32V_set, ← wAt_lo p hlo2] at M59
        refine WP.nil ?_
        refine WX.next (?_)
        refine WC.exit ?_
        refine WX.exit_then (WX.exit_block (WX.next (?_)))
        refine WC.region ?_
        refine WL.ex rfl rfl rfl (Ex.add rfl rfl (i64w _ (by omega) (by omega))) ?_
        refine WL.ex rfl rfl rfl (Ex.mv rfl) ?_
        refine WL.nil ?_
        refine WX.again (i + 1) ?_ ?_ (.cons rfl (.cons rfl (.cons rfl (.cons rfl (.cons rfl (.cons rfl (.nil)))))))
        · (try dsimp only); omega
        · exact ⟨by omega, M59⟩
      · have hlo2 : ¬ i < 16 := by omega
        refine WC.skip ?_
        refine WX.next (?_)
        refine WC.seq ?_
        refine WC.region ?_
        refine WL.ex rfl rfl rfl (Ex.mv rfl) ?_
        refine WL.ex rfl rfl rfl (Ex.sub rfl rfl (c := ((i - 15 : Nat) : Int)) (by rw [i64w _ (by omega) (by omega)]; omega)) ?_
        refine WL.ex rfl rfl rfl (Ex.iaA Tryd.underlying165 sz46 rfl rfl ⟨by omega, by omega⟩) ?_
        refine WL.ex rfl rfl rfl (Ex.load ty46 rfl (M16.cell (i := 0) rfl (u32V_at (i := i - 15) (by rw [(wAt_ok p i).1]; omega) (by simp only [Int.toNat_natCast, Nat.mul_one, Nat.zero_add])))) ?_
        refine WL.ex rfl rfl rfl (Ex.asg rfl) ?_
        refine WL.nil ?_
        refine WX.next (?_)
        refine WC.seq ?_
        refine WC.region ?_
        refine WL.ex rfl rfl rfl (Ex.mv rfl) ?_
        refine WL.ex rfl rfl rfl (Ex.sub rfl rfl (c := ((i - 2 : Nat) : Int)) (by rw [i64w _ (by omega) (by omega)]; omega)) ?_
        refine WL.ex rfl rfl rfl (Ex.iaA Tryd.underlying165 sz46 rfl rfl ⟨by omega, by omega⟩) ?_
        refine WL.ex rfl rfl rfl (Ex.load ty46 rfl (M16.cell (i := 0) rfl (u32V_at (i := i - 2) (by rw [(wAt_ok p i).1]; omega) (by simp only [Int.toNat_natCast, Nat.mul_one, Nat.zero_add])))) ?_
        refine WL.ex rfl rfl rfl (Ex.asg rfl) ?_
        refine WL.nil ?_
        refine WX.next (?_)
        refine WC.draw (Keep nof w16.drew) [27] (.one 0 0 (.one 1 0 (.one 2 0 (.one 3 0 (.one 5 0 (.one 6 0 (.one 7 0 (.one 10 0 (.one 12 0 (.one 14 0 (.one 18 0 (.one 20 0 (.one 22 0 (.one 4 1 (.one 8 1 (.one 9 0 (.one 11 2 (.one 13 2 (.one 15 2 (.one 16 2 (.one 17 0 (.one 19 2 (.one 21 2 (.one 23 2 (.one 24 2 (.one 25 0 (.one 26 0 (.one 27 2 .nil)))))))))))))))))))))))))))) mixed (by kernel_rfl) (by kernel_rfl) (by kernel_rfl) (HQ.block (HQ.then_ (HQ.then_ (HQ.block (HQ.then_ (HQ.block (HQ.then_ (HQ.then_ (HQ.block (HQ.then_ HQ.body)))))))))) ?_
        obtain ⟨w72, hw72⟩ : ∃ v, v = w16.drew := ⟨_, rfl⟩
        have D72 : Keep nof w16 w72 := by rw [hw72]; exact Keep.drew _ _
        have M72 := M16.step D72
        rw [← hw72]; clear hw72
        refine WP.p rfl rfl rfl rfl (fun _ => Ex.mv rfl) ?_
        refine WP.p rfl rfl rfl rfl (fun _ => Ex.mv rfl) ?_
        refine WP.p rfl rfl rfl rfl (fun _ => Ex.sub rfl rfl (c := ((i - 16 : Nat) : Int)) (by rw [i64w _ (by omega) (by omega)]; omega)) ?_
        refine WP.p rfl rfl rfl rfl (fun _ => Ex.iaA Tryd.underlying165 sz46 rfl rfl ⟨by omega, by omega⟩) ?_
        refine WP.p rfl rfl rfl rfl (fun _ => Ex.mv rfl) ?_
        refine WP.p rfl rfl rfl rfl (fun _ => Ex.sub rfl rfl (c := ((i - 7 : Nat) : Int)) (by rw [i64w _ (by omega) (by omega)]; omega)) ?_
        refine WP.p rfl rfl rfl rfl (fun _ => Ex.iaA Tryd.underlying165 sz46 rfl rfl ⟨by omega, by omega⟩) ?_
        refine WP.p rfl rfl rfl rfl (fun _ => Ex.mv rfl) ?_
        refine WP.p rfl rfl rfl rfl (fun _ => Ex.mv rfl) ?_
        refine WP.p rfl rfl rfl rfl (fun _ => Ex.mv rfl) ?_
        refine WP.p rfl rfl rfl rfl (fun _ => Ex.mv rfl) ?_
        refine WP.p rfl rfl rfl rfl (fun _ => Ex.mv rfl) ?_
        refine WP.p rfl rfl rfl rfl (fun _ => Ex.mv rfl) ?_
        refine WP.q (Keep.refl _ _) rfl rfl rfl rfl (fun w' hS => Ex.load ty46 rfl (hS.cell (M72.cell (i := 0) rfl (u32V_at (i := i - 16) (by rw [(wAt_ok p i).1]; omega) (by simp only [Int.toNat_natCast, Nat.mul_one, Nat.zero_add]))) (fun f => f))) ?_
        refine WP.q (Keep.refl _ _) rfl rfl rfl rfl (fun w' hS => Ex.load ty46 rfl (hS.cell (M72.cell (i := 0) rfl (u32V_at (i := i - 7) (by rw [(wAt_ok p i).1]; omega) (by simp only [Int.toNat_natCast, Nat.mul_one, Nat.zero_add]))) (fun f => f))) ?_
        refine WP.p rfl rfl rfl rfl (fun _ => Ex.add rfl rfl (add32N _ _)) ?_
        refine WP.as rfl rfl rfl rfl (Ac.call rfl Tryd.func111 nm111 rfl (downT_ok w72 _ 7 (u32s_get (wAt_ok p i)) (by decide))) ?_; rintro v89 w89 ⟨rfl, K89⟩
        refine ⟨Keep nof w89, fun u h => K89.trans h, Keep.refl _ _, ?_⟩
        have M89 := M72.step K89
        refine WP.as rfl rfl rfl rfl (Ac.call rfl Tryd.func111 nm111 rfl (downT_ok w89 _ 18 (u32s_get (wAt_ok p i)) (by decide))) ?_; rintro v90 w90 ⟨rfl, K90⟩
        refine ⟨Keep nof w90, fun u h => K90.trans h, Keep.refl _ _, ?_⟩
        have M90 := M89.step K90
        refine WP.as rfl rfl rfl rfl (Ac.call rfl Tryd.func111 nm111 rfl (downF_ok w90 _ 3 (u32s_get (wAt_ok p i)) (by decide))) ?_; rintro v91 w91 ⟨rfl, K91⟩
        refine ⟨Keep nof w91, fun u h => K91.trans h, Keep.refl _ _, ?_⟩
        have M91 := M90.step K91
        refine WP.as rfl rfl rfl rfl (Ac.call rfl Tryd.func110 nm110 rfl (both_ok w91 _ _ _ (rotr_lt (n := 7) (by decide) (u32s_get (wAt_ok p i))) (rotr_lt (n := 18) (by decide) (u32s_get (wAt_ok p i))) (Nat.lt_of_le_of_lt (Nat.div_le_self _ _) (u32s_get (wAt_ok p i))))) ?_; rintro v92 w92 ⟨rfl, K92⟩
        refine ⟨Keep nof w92, fun u h => K92.trans h, Keep.refl _ _, ?_⟩
        have M92 := M91.step K92
        refine WP.p rfl rfl rfl rfl (fun _ => Ex.add rfl rfl (add32N _ _)) ?_
        refine WP.as rfl rfl rfl rfl (Ac.call rfl Tryd.func111 nm111 rfl (downT_ok w92 _ 17 (u32s_get (wAt_ok p i)) (by decide))) ?_; rintro v94 w94 ⟨rfl, K94⟩
        refine ⟨Keep nof w94, fun u h => K94.trans h, Keep.refl _ _, ?_⟩
        have M94 := M92.step K94
        refine WP.as rfl rfl rfl rfl (Ac.call rfl Tryd.func111 nm111 rfl (downT_ok w94 _ 19 (u32s_get (wAt_ok p i)) (by decide))) ?_; rintro v95 w95 ⟨rfl, K95⟩
        refine ⟨Keep nof w95, fun u h => K95.trans h, Keep.refl _ _, ?_⟩
        have M95 := M94.step K95
        refine WP.as rfl rfl rfl rfl (Ac.call rfl Tryd.func111 nm111 rfl (downF_ok w95 _ 10 (u32s_get (wAt_ok p i)) (by decide))) ?_; rintro v96 w96 ⟨rfl, K96⟩
        refine ⟨Keep nof w96, fun u h => K96.trans h, Keep.refl _ _, ?_⟩
        have M96 := M95.step K96
        refine WP.as rfl rfl rfl rfl (Ac.call rfl Tryd.func110 nm110 rfl (both_ok w96 _ _ _ (rotr_lt (n := 17) (by decide) (u32s_get (wAt_ok p i))) (rotr_lt (n := 19) (by decide) (u32s_get (wAt_ok p i))) (Nat.lt_of_le_of_lt (Nat.div_le_self _ _) (u32s_get (wAt_ok p i))))) ?_; rintro v97 w97 ⟨rfl, K97⟩
        refine ⟨Keep nof w97, fun u h => K97.trans h, Keep.refl _ _, ?_⟩
        have M97 := M96.step K97
        refine WP.p rfl rfl rfl rfl (fun _ => Ex.add rfl rfl (add32N _ _)) ?_
        refine WP.p rfl rfl rfl rfl (fun _ => Ex.iaA Tryd.underlying165 sz46 rfl rfl ⟨by omega, by omega⟩) ?_
        refine WP.a0 rfl rfl rfl (Ac.st M97 ty46 rfl rfl rfl (i := 0) rfl (by simp [(wAt_ok p i).1]; omega)) ?_; rintro v100 w100 ⟨K100, M100⟩; refine .inl ⟨rfl, Keep nof w100, ?_⟩
        try dsimp only [List.set] at M100
        simp only [Int.toNat_natCast, Nat.mul_one, Nat.zero_add] at M100
        rw [u32V_set, wAt_hi p hlo2 (by simp only [sg0, sg1]; omega)] at M100
        refine WP.nil ?_
        refine WX.normal_block (WX.next (?_))
        refine WC.region ?_
        refine WL.ex rfl rfl rfl (Ex.add rfl rfl (i64w _ (by omega) (by omega))) ?_
        refine WL.ex rfl rfl rfl (Ex.mv rfl) ?_
        refine WL.nil ?_
        refine WX.again (i + 1) ?_ ?_ (.cons rfl (.cons rfl (.cons rfl (.cons rfl (.cons rfl (.cons rfl (.nil)))))))
        · (try dsimp only); omega
        · exact ⟨by omega, M100⟩
    · obtain rfl : i = 64 := by omega
      obtain ⟨W, hW⟩ : ∃ W, W = wAt p 64 := ⟨_, rfl⟩
      have hW64 : U32s 64 W := by rw [hW]; exact wAt_ok p 64
      have hcomp : addT hh (rAt hh W 64) 8 = comp hh p := by rw [comp, hW]
      rw [← hW] at M16
      refine WC.exit ?_
      refine WX.exit_then (WX.exit_then (WX.exit_block (WX.next (?_))))
      refine WC.seq ?_
      refine WC.region ?_
      refine WL.ex rfl rfl rfl (Ex.loadA ty164 rfl (u32s_len hh8) (M16.rdw (i := 2) rfl)) ?_
      refine WL.ac rfl rfl rfl (Ac.alloc M16 (l := u32V (List.replicate 8 0)) (by kernel_rfl)) ?_; rintro v104 w104 ⟨gl, rfl, hg104, K104, M104⟩
      refine WL.ac0 rfl rfl (Ac.stA M104 ty164 rfl rfl rfl (u32s_len hh8) (u32V_one _) (i := 0) rfl (by simp [hh8.1])) ?_; rintro v105 w105 ⟨K105, M105⟩
      try dsimp only [List.set] at M105
      rw [splice_all _ _ (by simp [hh8.1])] at M105
      refine WL.nil ?_
      refine WX.next (?_)
      refine WC.seq ?_
      refine WC.seq ?_
      refine WC.region ?_
      refine WL.ex rfl rfl rfl (Ex.mv rfl) ?_
      refine WL.nil ?_
      refine WX.next (?_)
      refine WC.block ?_
      refine WC.loop (σ := Nat) (fun i => [(2, .pointer (some ⟨g2, 0, none⟩)), (3, .pointer (some ⟨gh, 0, none⟩)), (4, .slice (some ⟨ga, 0, none⟩) (pad b).length cp), (5, .int .i64 ((64 * k : Nat) : Int)), (6, .pointer (some ⟨gw, 0, none⟩)), (11, .pointer (some ⟨gl, 0, none⟩)), (106, .int .i64 (i : Int))]) (fun i wr => i ≤ 64 ∧ U32s 8 (rAt hh W i) ∧ Mem w wr nof [blk gl (u32V (rAt hh W i)) 164, blk gw (u32V W) 165, row (.slice (some ⟨ga, 0, none⟩) (pad b).length cp) 5 1 (pad b).length (bytesV (pad b)), blk gh (u32V hh) 164, blk g2 (bytesV (List.replicate 32 0)) 31]) (fun i => 64 - i) (0) ?_ (.cons rfl (.cons rfl (.cons rfl (.cons rfl (.cons rfl (.cons rfl (.cons rfl (.nil)))))))) ?_
      · exact ⟨by decide, hh8, M105⟩
      rintro i w107 ⟨hi, hR, M107⟩
      refine WC.seq ?_
      refine WC.region ?_
      refine WL.ex rfl rfl rfl (Ex.lss rfl rfl) ?_
      refine WL.nil ?_
      refine WX.next (?_)
      refine WC.seq ?_
      refine WC.cond_dec rfl (fun hi64 => ?_) (fun hi64 => ?_)
      · have hi64b : i < 64 := by omega
        obtain ⟨a, ha⟩ : ∃ a, a = rAt hh W i := ⟨_, rfl⟩
        have hrs : rAt hh W (i + 1) = rnd a (kTab.getD i 0) (W.getD i 0) := by rw [rAt, ha]
        rw [← ha] at hR M107
        refine WC.skip ?_
        refine WX.next (?_)
        refine WC.seq ?_
        refine WC.block ?_
        refine WC.seq ?_
        refine WC.region ?_
        refine WL.ex rfl rfl rfl (Ex.mv rfl) ?_
        refine WL.ex rfl rfl rfl (Ex.asg rfl) ?_
        refine WL.nil ?_
        refine WX.next (?_)
        refine WC.seq ?_
        refine WC.draw (Keep nof w107.drew) [] (.one 0 0 (.one 2 0 (.one 5 0 (.one 8 0 (.one 13 0 (.one 15 0 (.one 18 0 (.one 21 0 (.one 26 0 (.one 27 0 (.one 30 0 (.one 31 0 (.one 1 1 (.one 3 1 (.one 6 1 (.one 9 1 (.one 14 1 (.one 16 1 (.one 17 0 (.one 19 1 (.one 20 0 (.one 22 1 (.one 23 0 (.one 24 0 (.one 28 1 (.one 32 1 (.one 4 2 (.one 7 2 (.one 10 2 (.one 11 2 (.one 12 0 (.one 25 0 (.one 29 0 (.one 33 0 (.one 34 0 .nil))))))))))))))))))))))))))))))))))) mixed (by kernel_rfl) (by kernel_rfl) (by kernel_rfl) (HQ.then_ (HQ.block (HQ.then_ (HQ.then_ (HQ.block (HQ.then_ (HQ.block (HQ.then_ (HQ.then_ (HQ.block (HQ.then_ HQ.body))))))))))) ?_
        obtain ⟨w111, hw111⟩ : ∃ v, v = w107.drew := ⟨_, rfl⟩
        have D111 : Keep nof w107 w111 := by rw [hw111]; exact Keep.drew _ _
        have M111 := M107.step D111
        rw [← hw111]; clear hw111
        refine WP.p rfl rfl rfl rfl (fun _ => Ex.iaA Tryd.underlying164 sz46 rfl rfl ⟨by omega, by omega⟩) ?_
        refine WP.p rfl rfl rfl rfl (fun _ => Ex.iaA Tryd.underlying164 sz46 rfl rfl ⟨by omega, by omega⟩) ?_
        refine WP.p rfl rfl rfl rfl (fun _ => Ex.iaA Tryd.underlying164 sz46 rfl rfl ⟨by omega, by omega⟩) ?_
        refine WP.p rfl rfl rfl rfl (fun _ => Ex.iaA Tryd.underlying164 sz46 rfl rfl ⟨by omega, by omega⟩) ?_
        refine WP.p rfl rfl rfl rfl (fun _ => Ex.iaA Tryd.underlying164 sz46 rfl rfl ⟨by omega, by omega⟩) ?_
        refine WP.p rfl rfl rfl rfl (fun _ => Ex.iaA Tryd.underlying164 sz46 rfl rfl ⟨by omega, by omega⟩) ?_
        refine WP.p rfl rfl rfl rfl (fun _ => Ex.iaA Tryd.underlying164 sz46 rfl rfl ⟨by omega, by omega⟩) ?_
        refine WP.p rfl rfl rfl rfl (fun _ => Ex.iaA Tryd.underlying164 sz46 rfl rfl ⟨by omega, by omega⟩) ?_
        refine WP.p rfl rfl rfl rfl (fun _ => Ex.mv rfl) ?_
        refine WP.p rfl rfl rfl rfl (fun _ => Ex.iaA Tryd.underlying165 sz46 rfl rfl ⟨by omega, by omega⟩) ?_
        refine WP.p rfl rfl rfl rfl (fun _ => Ex.mv rfl) ?_
        refine WP.p rfl rfl rfl rfl (fun _ => Ex.iaA Tryd.underlying165 sz46 rfl rfl ⟨by omega, by omega⟩) ?_
        refine WP.q (Keep.refl _ _) rfl rfl rfl rfl (fun w' hS => Ex.load ty46 rfl (hS.cell (M111.cell (i := 0) rfl (u32V_at (i := 7) (by rw [hR.1]; decide) rfl)) (fun f => f))) ?_
        refine WP.q (Keep.refl _ _) rfl rfl rfl rfl (fun w' hS => Ex.load ty46 rfl (hS.cell (M111.cell (i := 0) rfl (u32V_at (i := 4) (by rw [hR.1]; decide) rfl)) (fun f => f))) ?_
        refine WP.q (Keep.refl _ _) rfl rfl rfl rfl (fun w' hS => Ex.load ty46 rfl (hS.cell (M111.cell (i := 0) rfl (u32V_at (i := 4) (by rw [hR.1]; decide) rfl)) (fun f => f))) ?_
        refine WP.q (Keep.refl _ _) rfl rfl rfl rfl (fun w' hS => Ex.load ty46 rfl (hS.cell (M111.cell (i := 0) rfl (u32V_at (i := 4) (by rw [hR.1]; decide) rfl)) (fun f => f))) ?_
        refine WP.q (Keep.refl _ _) rfl rfl rfl rfl (fun w' hS => Ex.load ty46 rfl (hS.cell (M111.cell (i := 0) rfl (u32V_at (i := 4) (by rw [hR.1]; decide) rfl)) (fun f => f))) ?_
        refine WP.q (Keep.refl _ _) rfl rfl rfl rfl (fun w' hS => Ex.load ty46 rfl (hS.cell (M111.cell (i := 0) rfl (u32V_at (i := 5) (by rw [hR.1]; decide) rfl)) (fun f => f))) ?_
        refine WP.p rfl rfl rfl rfl (fun _ => Ex.band rfl rfl (band32 (by first | exact u32s_get (by assumption) | assumption | exact and32 (by first | exact u32s_get (by assumption) | omega) | omega | exact xor32 (and32 (by first | exact u32s_get (by assumption) | omega)) (and32 (by first | exact u32s_get (by assumption) | omega))) (by first | exact u32s_get (by assumption) | assumption | exact and32 (by first | exact u32s_get (by assumption) | omega) | omega | exact xor32 (and32 (by first | exact u32s_get (by assumption) | omega)) (and32 (by first | exact u32s_get (by assumption) | omega))) rfl)) ?_
        refine WP.q (Keep.refl _ _) rfl rfl rfl rfl (fun w' hS => Ex.load ty46 rfl (hS.cell (M111.cell (i := 0) rfl (u32V_at (i := 4) (by rw [hR.1]; decide) rfl)) (fun f => f))) ?_
        refine WP.p rfl rfl rfl rfl (fun _ => Ex.sub rfl rfl (c := ((4294967295 - a.getD 4 0 : Nat) : Int)) (by have := u32s_get (i := 4) hR; rw [show (4294967295 : Int) - ((a.getD 4 0 : Nat) : Int) = ((4294967295 - a.getD 4 0 : Nat) : Int) by omega]; exact u32w_lt _ (by omega))) ?_
        refine WP.q (Keep.refl _ _) rfl rfl rfl rfl (fun w' hS => Ex.load ty46 rfl (hS.cell (M111.cell (i := 0) rfl (u32V_at (i := 6) (by rw [hR.1]; decide) rfl)) (fun f => f))) ?_
        refine WP.p rfl rfl rfl rfl (fun _ => Ex.band rfl rfl (band32 (by first | exact u32s_get (by assumption) | assumption | exact and32 (by first | exact u32s_get (by assumption) | omega) | omega | exact xor32 (and32 (by first | exact u32s_get (by assumption) | omega)) (and32 (by first | exact u32s_get (by assumption) | omega))) (by first | exact u32s_get (by assumption) | assumption | exact and32 (by first | exact u32s_get (by assumption) | omega) | omega | exact xor32 (and32 (by first | exact u32s_get (by assumption) | omega)) (and32 (by first | exact u32s_get (by assumption) | omega))) rfl)) ?_
        refine WP.p rfl rfl rfl rfl (fun _ => Ex.bor rfl rfl (c := ((cho (a.getD 4 0) (a.getD 5 0) (a.getD 6 0) : Nat) : Int)) (bor32 (and32 (u32s_get hR)) (and32 (by omega)) (cho_or (u32s_get hR)))) ?_
        refine WP.q (Keep.refl _ _) rfl rfl rfl rfl (fun w' hS => Ex.load ty46 rfl (TabR.at_k (hT.keep0 (M111.keep.trans hS)) hi64b)) ?_
        refine WP.q (Keep.refl _ _) rfl rfl rfl rfl (fun w' hS => Ex.load ty46 rfl (hS.cell (M111.cell (i := 1) rfl (u32V_at (i := i) (by rw [hW64.1]; omega) (by simp only [Int.toNat_natCast, Nat.mul_one, Nat.zero_add]))) (fun f => f))) ?_
        refine WP.as rfl rfl rfl rfl (Ac.call rfl Tryd.func111 nm111 rfl (downT_ok w111 _ 6 (u32s_get hR) (by decide))) ?_; rintro v138 w138 ⟨rfl, K138⟩
        refine ⟨Keep nof w138, fun u h => K138.trans h, Keep.refl _ _, ?_⟩
        have M138 := M111.step K138
        refine WP.as rfl rfl rfl rfl (Ac.call rfl Tryd.func111 nm111 rfl (downT_ok w138 _ 11 (u32s_get hR) (by decide))) ?_; rintro v139 w139 ⟨rfl, K139⟩
        refine ⟨Keep nof w139, fun u h => K139.trans h, Keep.refl _ _, ?_⟩
        have M139 := M138.step K139
        refine WP.as rfl rfl rfl rfl (Ac.call rfl Tryd.func111 nm111 rfl (downT_ok w139 _ 25 (u32s_get hR) (by decide))) ?_; rintro v140 w140 ⟨rfl, K140⟩
        refine ⟨Keep nof w140, fun u h => K140.trans h, Keep.refl _ _, ?_⟩
        have M140 := M139.step K140
        refine WP.as rfl rfl rfl rfl (Ac.call rfl Tryd.func110 nm110 rfl (both_ok w140 _ _ _ (rotr_lt (n := 6) (by decide) (u32s_get hR)) (rotr_lt (n := 11) (by decide) (u32s_get hR)) (rotr_lt (n := 25) (by decide) (u32s_get hR)))) ?_; rintro v141 w141 ⟨rfl, K141⟩
        refine ⟨Keep nof w141, fun u h => K141.trans h, Keep.refl _ _, ?_⟩
        have M141 := M140.step K141
        refine WP.p rfl rfl rfl rfl (fun _ => Ex.add rfl rfl (add32N _ _)) ?_
        refine WP.p rfl rfl rfl rfl (fun _ => Ex.add rfl rfl (add32N _ _)) ?_
        refine WP.p rfl rfl rfl rfl (fun _ => Ex.add rfl rfl (add32N _ _)) ?_
        refine WP.p rfl rfl rfl rfl (fun _ => Ex.add rfl rfl (add32N _ _)) ?_
        refine WP.p rfl rfl rfl rfl (fun _ => Ex.asg rfl) ?_
        refine WP.nil ?_
        refine WX.next (?_)
        refine WC.seq ?_
        refine WC.draw (Keep nof w141.drew) [] (.one 0 0 (.one 3 0 (.one 6 0 (.one 10 0 (.one 12 0 (.one 15 0 (.one 17 0 (.one 21 0 (.one 23 0 (.one 1 1 (.one 4 1 (.one 7 1 (.one 11 1 (.one 13 1 (.one 14 0 (.one 16 1 (.one 18 1 (.one 19 0 (.one 20 0 (.one 22 1 (.one 24 1 (.one 25 0 (.one 26 0 (.one 2 2 (.one 5 2 (.one 8 2 (.one 9 2 (.one 27 0 (.one 28 0 .nil))))))))))))))))))))))))))))) mixed (by kernel_rfl) (by kernel_rfl) (by kernel_rfl) (HQ.then_ (HQ.block (HQ.then_ (HQ.then_ (HQ.block (HQ.then_ (HQ.block (HQ.then_ (HQ.then_ (HQ.block (HQ.then_ HQ.body))))))))))) ?_
        obtain ⟨w147, hw147⟩ : ∃ v, v = w141.drew := ⟨_, rfl⟩
        have D147 : Keep nof w141 w147 := by rw [hw147]; exact Keep.drew _ _
        have M147 := M141.step D147
        rw [← hw147]; clear hw147
        refine WP.p rfl rfl rfl rfl (fun _ => Ex.iaA Tryd.underlying164 sz46 rfl rfl ⟨by omega, by omega⟩) ?_
        refine WP.p rfl rfl rfl rfl (fun _ => Ex.iaA Tryd.underlying164 sz46 rfl rfl ⟨by omega, by omega⟩) ?_
        refine WP.p rfl rfl rfl rfl (fun _ => Ex.iaA Tryd.underlying164 sz46 rfl rfl ⟨by omega, by omega⟩) ?_
        refine WP.p rfl rfl rfl rfl (fun _ => Ex.iaA Tryd.underlying164 sz46 rfl rfl ⟨by omega, by omega⟩) ?_
        refine WP.p rfl rfl rfl rfl (fun _ => Ex.iaA Tryd.underlying164 sz46 rfl rfl ⟨by omega, by omega⟩) ?_
        refine WP.p rfl rfl rfl rfl (fun _ => Ex.iaA Tryd.underlying164 sz46 rfl rfl ⟨by omega, by omega⟩) ?_
        refine WP.p rfl rfl rfl rfl (fun _ => Ex.iaA Tryd.underlying164 sz46 rfl rfl ⟨by omega, by omega⟩) ?_
        refine WP.p rfl rfl rfl rfl (fun _ => Ex.iaA Tryd.underlying164 sz46 rfl rfl ⟨by omega, by omega⟩) ?_
        refine WP.p rfl rfl rfl rfl (fun _ => Ex.iaA Tryd.underlying164 sz46 rfl rfl ⟨by omega, by omega⟩) ?_
        refine WP.q (Keep.refl _ _) rfl rfl rfl rfl (fun w' hS => Ex.load ty46 rfl (hS.cell (M147.cell (i := 0) rfl (u32V_at (i := 0) (by rw [hR.1]; decide) rfl)) (fun f => f))) ?_
        refine WP.q (Keep.refl _ _) rfl rfl rfl rfl (fun w' hS => Ex.load ty46 rfl (hS.cell (M147.cell (i := 0) rfl (u32V_at (i := 0) (by rw [hR.1]; decide) rfl)) (fun f => f))) ?_
        refine WP.q (Keep.refl _ _) rfl rfl rfl rfl (fun w' hS => Ex.load ty46 rfl (hS.cell (M147.cell (i := 0) rfl (u32V_at (i := 0) (by rw [hR.1]; decide) rfl)) (fun f => f))) ?_
        refine WP.q (Keep.refl _ _) rfl rfl rfl rfl (fun w' hS => Ex.load ty46 rfl (hS.cell (M147.cell (i := 0) rfl (u32V_at (i := 0) (by rw [hR.1]; decide) rfl)) (fun f => f))) ?_
        refine WP.q (Keep.refl _ _) rfl rfl rfl rfl (fun w' hS => Ex.load ty46 rfl (hS.cell (M147.cell (i := 0) rfl (u32V_at (i := 1) (by rw [hR.1]; decide) rfl)) (fun f => f))) ?_
        refine WP.p rfl rfl rfl rfl (fun _ => Ex.band rfl rfl (band32 (by first | exact u32s_get (by assumption) | assumption | exact and32 (by first | exact u32s_get (by assumption) | omega) | omega | exact xor32 (and32 (by first | exact u32s_get (by assumption) | omega)) (and32 (by first | exact u32s_get (by assumption) | omega))) (by first | exact u32s_get (by assumption) | assumption | exact and32 (by first | exact u32s_get (by assumption) | omega) | omega | exact xor32 (and32 (by first | exact u32s_get (by assumption) | omega)) (and32 (by first | exact u32s_get (by assumption) | omega))) rfl)) ?_
        refine WP.q (Keep.refl _ _) rfl rfl rfl rfl (fun w' hS => Ex.load ty46 rfl (hS.cell (M147.cell (i := 0) rfl (u32V_at (i := 0) (by rw [hR.1]; decide) rfl)) (fun f => f))) ?_
        refine WP.q (Keep.refl _ _) rfl rfl rfl rfl (fun w' hS => Ex.load ty46 rfl (hS.cell (M147.cell (i := 0) rfl (u32V_at (i := 2) (by rw [hR.1]; decide) rfl)) (fun f => f))) ?_
        refine WP.p rfl rfl rfl rfl (fun _ => Ex.band rfl rfl (band32 (by first | exact u32s_get (by assumption) | assumption | exact and32 (by first | exact u32s_get (by assumption) | omega) | omega | exact xor32 (and32 (by first | exact u32s_get (by assumption) | omega)) (and32 (by first | exact u32s_get (by assumption) | omega))) (by first | exact u32s_get (by assumption) | assumption | exact and32 (by first | exact u32s_get (by assumption) | omega) | omega | exact xor32 (and32 (by first | exact u32s_get (by assumption) | omega)) (and32 (by first | exact u32s_get (by assumption) | omega))) rfl)) ?_
        refine WP.p rfl rfl rfl rfl (fun _ => Ex.bor rfl rfl (bor32 (and32 (u32s_get hR)) (and32 (u32s_get hR)) rfl)) ?_
        refine WP.q (Keep.refl _ _) rfl rfl rfl rfl (fun w' hS => Ex.load ty46 rfl (hS.cell (M147.cell (i := 0) rfl (u32V_at (i := 1) (by rw [hR.1]; decide) rfl)) (fun f => f))) ?_
        refine WP.q (Keep.refl _ _) rfl rfl rfl rfl (fun w' hS => Ex.load ty46 rfl (hS.cell (M147.cell (i := 0) rfl (u32V_at (i := 2) (by rw [hR.1]; decide) rfl)) (fun f => f))) ?_
        refine WP.p rfl rfl rfl rfl (fun _ => Ex.band rfl rfl (band32 (by first | exact u32s_get (by assumption) | assumption | exact and32 (by first | exact u32s_get (by assumption) | omega) | omega | exact xor32 (and32 (by first | exact u32s_get (by assumption) | omega)) (and32 (by first | exact u32s_get (by assumption) | omega))) (by first | exact u32s_get (by assumption) | assumption | exact and32 (by first | exact u32s_get (by assumption) | omega) | omega | exact xor32 (and32 (by first | exact u32s_get (by assumption) | omega)) (and32 (by first | exact u32s_get (by assumption) | omega))) rfl)) ?_
        refine WP.p rfl rfl rfl rfl (fun _ => Ex.bor rfl rfl (c := ((maj (a.getD 0 0) (a.getD 1 0) (a.getD 2 0) : Nat) : Int)) (bor32 (or32 (and32 (u32s_get hR)) (and32 (u32s_get hR))) (and32 (u32s_get hR)) (maj_or _ _ _))) ?_
        refine WP.as rfl rfl rfl rfl (Ac.call rfl Tryd.func111 nm111 rfl (downT_ok w147 _ 2 (u32s_get hR) (by decide))) ?_; rintro v171 w171 ⟨rfl, K171⟩
        refine ⟨Keep nof w171, fun u h => K171.trans h, Keep.refl _ _, ?_⟩
        have M171 := M147.step K171
        refine WP.as rfl rfl rfl rfl (Ac.call rfl Tryd.func111 nm111 rfl (downT_ok w171 _ 13 (u32s_get hR) (by decide))) ?_; rintro v172 w172 ⟨rfl, K172⟩
        refine ⟨Keep nof w172, fun u h => K172.trans h, Keep.refl _ _, ?_⟩
        have M172 := M171.step K172
        refine WP.as rfl rfl rfl rfl (Ac.call rfl Tryd.func111 nm111 rfl (downT_ok w172 _ 22 (u32s_get hR) (by decide))) ?_; rintro v173 w173 ⟨rfl, K173⟩
        refine ⟨Keep nof w173, fun u h => K173.trans h, Keep.refl _ _, ?_⟩
        have M173 := M172.step K173
        refine WP.as rfl rfl rfl rfl (Ac.call rfl Tryd.func110 nm110 rfl (both_ok w173 _ _ _ (rotr_lt (n := 2) (by decide) (u32s_get hR)) (rotr_lt (n := 13) (by decide) (u32s_get hR)) (rotr_lt (n := 22) (by decide) (u32s_get hR)))) ?_; rintro v174 w174 ⟨rfl, K174⟩
        refine ⟨Keep nof w174, fun u h => K174.trans h, Keep.refl _ _, ?_⟩
        have M174 := M173.step K174
        refine WP.p rfl rfl rfl rfl (fun _ => Ex.add rfl rfl (add32N _ _)) ?_
        refine WP.p rfl rfl rfl rfl (fun _ => Ex.asg rfl) ?_
        refine WP.nil ?_
        refine WX.next (?_)
        refine WC.region ?_
        refine WL.ex rfl rfl rfl (Ex.mv rfl) ?_
        refine WL.ex rfl rfl rfl (Ex.mv rfl) ?_
        refine WL.ex rfl rfl rfl (Ex.add rfl rfl (add32N _ _)) ?_
        refine WL.ex rfl rfl rfl (Ex.iaA Tryd.underlying164 sz46 rfl rfl ⟨by omega, by omega⟩) ?_
        refine WL.ex rfl rfl rfl (Ex.load ty46 rfl (M174.cell (i := 0) rfl (u32V_at (i := 0) (by rw [((by first | assumption | exact (u32s_0 8)) : U32s 8 _).1]; decide) rfl))) ?_
        refine WL.ex rfl rfl rfl (Ex.iaA Tryd.underlying164 sz46 rfl rfl ⟨by omega, by omega⟩) ?_
        refine WL.ex rfl rfl rfl (Ex.load ty46 rfl (M174.cell (i := 0) rfl (u32V_at (i := 1) (by rw [((by first | assumption | exact (u32s_0 8)) : U32s 8 _).1]; decide) rfl))) ?_
        refine WL.ex rfl rfl rfl (Ex.iaA Tryd.underlying164 sz46 rfl rfl ⟨by omega, by omega⟩) ?_
        refine WL.ex rfl rfl rfl (Ex.load ty46 rfl (M174.cell (i := 0) rfl (u32V_at (i := 2) (by rw [((by first | assumption | exact (u32s_0 8)) : U32s 8 _).1]; decide) rfl))) ?_
        refine WL.ex rfl rfl rfl (Ex.iaA Tryd.underlying164 sz46 rfl rfl ⟨by omega, by omega⟩) ?_
        refine WL.ex rfl rfl rfl (Ex.load ty46 rfl (M174.cell (i := 0) rfl (u32V_at (i := 3) (by rw [((by first | assumption | exact (u32s_0 8)) : U32s 8 _).1]; decide) rfl))) ?_
        refine WL.ex rfl rfl rfl (Ex.mv rfl) ?_
        refine WL.ex rfl rfl rfl (Ex.add rfl rfl (add32N _ _)) ?_
        refine WL.ex rfl rfl rfl (Ex.iaA Tryd.underlying164 sz46 rfl rfl ⟨by omega, by omega⟩) ?_
        refine WL.ex rfl rfl rfl (Ex.load ty46 rfl (M174.cell (i := 0) rfl (u32V_at (i := 4) (by rw [((by first | assumption | exact (u32s_0 8)) : U32s 8 _).1]; decide) rfl))) ?_
        refine WL.ex rfl rfl rfl (Ex.iaA Tryd.underlying164 sz46 rfl rfl ⟨by omega, by omega⟩) ?_
        refine WL.ex rfl rfl rfl (Ex.load ty46 rfl (M174.cell (i := 0) rfl (u32V_at (i := 5) (by rw [((by first | assumption | exact (u32s_0 8)) : U32s 8 _).1]; decide) rfl))) ?_
        refine WL.ex rfl rfl rfl (Ex.iaA Tryd.underlying164 sz46 rfl rfl ⟨by omega, by omega⟩) ?_
        refine WL.ex rfl rfl rfl (Ex.load ty46 rfl (M174.cell (i := 0) rfl (u32V_at (i := 6) (by rw [((by first | assumption | exact (u32s_0 8)) : U32s 8 _).1]; decide) rfl))) ?_
        refine WL.ex rfl rfl rfl (Ex.bldS bd164 (parts := [(0, .tmp 173), (1, .tmp 175), (2, .tmp 177), (3, .tmp 179), (4, .tmp 183), (5, .tmp 185), (6, .tmp 187), (7, .tmp 189)]) _ rfl rfl rfl bld8) ?_
        refine WL.ac0 rfl rfl (Ac.stA M174 ty164 rfl rfl rfl rfl (u32V_one _) (i := 0) rfl (by simp [hR.1, u32V])) ?_; rintro v197 w197 ⟨K197, M197⟩
        try dsimp only [List.set] at M197
        rw [splice_all _ _ (by simp [hR.1, u32V])] at M197
        replace M197 := M197.eqv (i := 0) rfl (r' := blk gl (u32V (rAt hh W (i + 1))) 164) (congrArg (fun x => blk gl (u32V x) 164) (by rw [hrs]; simp only [rnd, three, List.cons.injEq, and_true, true_and]; constructor <;> omega))
        try dsimp only [List.set] at M197
        refine WL.nil ?_
        refine WX.normal_block (WX.next (?_))
        refine WC.region ?_
        refine WL.ex rfl rfl rfl (Ex.add rfl rfl (i64w _ (by omega) (by omega))) ?_
        refine WL.ex rfl rfl rfl (Ex.mv rfl) ?_
        refine WL.nil ?_
        refine WX.again (i + 1) ?_ ?_ (.cons rfl (.cons rfl (.cons rfl (.cons rfl (.cons rfl (.cons rfl (.cons rfl (.nil))))))))
        · (try dsimp only); omega
        · exact ⟨by omega, by rw [hrs]; exact rnd_ok hR _ _, M197⟩
      · obtain rfl : i = 64 := by omega
        refine WC.exit ?_
        refine WX.exit_then (WX.exit_then (WX.exit_block (WX.next (?_))))
        refine WC.seq ?_
        refine WC.region ?_
        refine WL.ex rfl rfl rfl (Ex.mv rfl) ?_
        refine WL.nil ?_
        refine WX.next (?_)
        refine WC.block ?_
        refine WC.loop (σ := Nat) (fun i => [(2, .pointer (some ⟨g2, 0, none⟩)), (3, .pointer (some ⟨gh, 0, none⟩)), (4, .slice (some ⟨ga, 0, none⟩) (pad b).length cp), (5, .int .i64 ((64 * k : Nat) : Int)), (11, .pointer (some ⟨gl, 0, none⟩)), (192, .int .i64 (i : Int))]) (fun i wr => i ≤ 8 ∧ Mem w wr nof [blk gl (u32V (rAt hh W 64)) 164, row (.slice (some ⟨ga, 0, none⟩) (pad b).length cp) 5 1 (pad b).length (bytesV (pad b)), blk gh (u32V (addT hh (rAt hh W 64) i)) 164, blk g2 (bytesV (List.replicate 32 0)) 31]) (fun i => 8 - i) (0) ?_ (.cons rfl (.cons rfl (.cons rfl (.cons rfl (.cons rfl (.cons rfl (.nil))))))) ?_
        · exact ⟨by decide, by rw [addT_0 hh8.1]; exact (Mem.sub M107 (.cons_cons _ (.cons _ (.refl _))))⟩
        rintro i w201 ⟨hi, M201⟩
        refine WC.seq ?_
        refine WC.region ?_
        refine WL.ex rfl rfl rfl (Ex.lss rfl rfl) ?_
        refine WL.nil ?_
        refine WX.next (?_)
        refine WC.seq ?_
        refine WC.cond_dec rfl (fun hi8 => ?_) (fun hi8 => ?_)
        · have hi8b : i < 8 := by omega
          have hRl := (rAt_ok hh8 W 64).1
          have hal : (addT hh (rAt hh W 64) i).length = 8 := by simp [addT]
          refine WC.skip ?_
          refine WX.next (?_)
          refine WC.seq ?_
          refine WC.block ?_
          refine WC.seq ?_
          refine WC.region ?_
          refine WL.ex rfl rfl rfl (Ex.mv rfl) ?_
          refine WL.ex rfl rfl rfl (Ex.asg rfl) ?_
          refine WL.nil ?_
          refine WX.next (?_)
          refine WC.draw (Keep nof w201.drew) [9] (.one 0 0 (.one 1 0 (.one 2 0 (.one 4 0 (.one 5 0 (.one 3 1 (.one 6 1 (.one 7 0 (.one 8 0 (.one 9 2 .nil)))))))))) mixed (by kernel_rfl) (by kernel_rfl) (by kernel_rfl) (HQ.block (HQ.then_ (HQ.then_ (HQ.block (HQ.block (HQ.then_ (HQ.then_ (HQ.block (HQ.then_ HQ.body))))))))) ?_
          obtain ⟨w205, hw205⟩ : ∃ v, v = w201.drew := ⟨_, rfl⟩
          have D205 : Keep nof w201 w205 := by rw [hw205]; exact Keep.drew _ _
          have M205 := M201.step D205
          rw [← hw205]; clear hw205
          refine WP.p rfl rfl rfl rfl (fun _ => Ex.mv rfl) ?_
          refine WP.p rfl rfl rfl rfl (fun _ => Ex.mv rfl) ?_
          refine WP.p rfl rfl rfl rfl (fun _ => Ex.iaA Tryd.underlying164 sz46 rfl rfl ⟨by omega, by omega⟩) ?_
          refine WP.p rfl rfl rfl rfl (fun _ => Ex.mv rfl) ?_
          refine WP.p rfl rfl rfl rfl (fun _ => Ex.iaA Tryd.underlying164 sz46 rfl rfl ⟨by omega, by omega⟩) ?_
          refine WP.q (Keep.refl _ _) rfl rfl rfl rfl (fun w' hS => Ex.load ty46 rfl (hS.cell (M205.cell (i := 2) rfl (u32V_at (i := i) (by rw [hal]; omega) (by simp only [Int.toNat_natCast, Nat.mul_one, Nat.zero_add]))) (fun f => f))) ?_
          refine WP.q (Keep.refl _ _) rfl rfl rfl rfl (fun w' hS => Ex.load ty46 rfl (hS.cell (M205.cell (i := 0) rfl (u32V_at (i := i) (by rw [hRl]; omega) (by simp only [Int.toNat_natCast, Nat.mul_one, Nat.zero_add]))) (fun f => f))) ?_
          refine WP.p rfl rfl rfl rfl (fun _ => Ex.add rfl rfl (add32N _ _)) ?_
          refine WP.p rfl rfl rfl rfl (fun _ => Ex.iaA Tryd.underlying164 sz46 rfl rfl ⟨by omega, by omega⟩) ?_
          refine WP.a0 rfl rfl rfl (Ac.st M205 ty46 rfl rfl rfl (i := 2) rfl (by simp [hal]; omega)) ?_; rintro v215 w215 ⟨K215, M215⟩; refine .inl ⟨rfl, Keep nof w215, ?_⟩
          try dsimp only [List.set] at M215
          simp only [Int.toNat_natCast, Nat.mul_one, Nat.zero_add] at M215
          rw [u32V_set, addT_get hi8b, if_neg (by omega), addT_set hi8b] at M215
          refine WP.nil ?_
          refine WX.normal_block (WX.next (?_))
          refine WC.region ?_
          refine WL.ex rfl rfl rfl (Ex.add rfl rfl (i64w _ (by omega) (by omega))) ?_
          refine WL.ex rfl rfl rfl (Ex.mv rfl) ?_
          refine WL.nil ?_
          refine WX.again (i + 1) ?_ ?_ (.cons rfl (.cons rfl (.cons rfl (.cons rfl (.cons rfl (.cons rfl (.nil)))))))
          · (try dsimp only); omega
          · exact ⟨by omega, M215⟩
        · obtain rfl : i = 8 := by omega
          rw [hcomp, ← hcs] at M201
          refine WC.exit ?_
          refine WX.exit_then (WX.exit_then (WX.exit_block (WX.normal_block (WX.next (?_)))))
          refine WC.region ?_
          refine WL.ex rfl rfl rfl (Ex.mv rfl) ?_
          refine WL.ex rfl rfl rfl (Ex.add rfl rfl (i64w _ (by omega) (by omega))) ?_
          refine WL.ex rfl rfl rfl (Ex.asg rfl) ?_
          refine WL.nil ?_
          refine WX.again (k + 1) ?_ ?_ (.cons rfl (.cons rfl (.cons rfl (.cons rfl (.nil)))))
          · (try dsimp only); omega
          · exact ⟨by omega, (Mem.sub M201 (.cons _ (.refl _)))⟩
  · have hkk : k = (pad b).length / 64 := by omega
    have hsha : outB (comps k hBeg (pad b)) = sha b := by rw [hkk]; rfl
    have hh8 := comps_ok k hBeg_ok (pad b)
    obtain ⟨hh, hhe⟩ : ∃ hh, hh = comps k hBeg (pad b) := ⟨_, rfl⟩
    rw [← hhe] at hh8 hsha M9
    refine WC.exit ?_
    refine WX.exit_then (WX.exit_then (WX.exit_block (WX.next (?_))))
    refine WC.seq ?_
    refine WC.region ?_
    refine WL.ac rfl rfl rfl (Ac.alloc M9 (l := bytesV (List.replicate 32 0)) (by kernel_rfl)) ?_; rintro v221 w221 ⟨g16, rfl, hg221, K221, M221⟩
    refine WL.nil ?_
    refine WX.next (?_)
    refine WC.seq ?_
    refine WC.seq ?_
    refine WC.region ?_
    refine WL.ex rfl rfl rfl (Ex.mv rfl) ?_
    refine WL.nil ?_
    refine WX.next (?_)
    refine WC.block ?_
    refine WC.loop (σ := Nat) (fun i => [(2, .pointer (some ⟨g2, 0, none⟩)), (3, .pointer (some ⟨gh, 0, none⟩)), (16, .pointer (some ⟨g16, 0, none⟩)), (205, .int .i64 (i : Int))]) (fun i wr => i ≤ 8 ∧ Mem w wr nof [blk g16 (bytesV (outP hh i 0)) 31, blk gh (u32V hh) 164, blk g2 (bytesV (List.replicate 32 0)) 31]) (fun i => 8 - i) (0) ?_ (.cons rfl (.cons rfl (.cons rfl (.cons rfl (.nil))))) ?_
    · exact ⟨by decide, by rw [outP_0]; exact (Mem.sub M221 (.cons_cons _ (.cons _ (.refl _))))⟩
    rintro i w223 ⟨hi, M223⟩
    refine WC.seq ?_
    refine WC.region ?_
    refine WL.ex rfl rfl rfl (Ex.lss rfl rfl) ?_
    refine WL.nil ?_
    refine WX.next (?_)
    refine WC.seq ?_
    refine WC.cond_dec rfl (fun hi8 => ?_) (fun hi8 => ?_)
    · have hi8b : i < 8 := by omega
      have hgx := u32s_get (i := i) hh8
      refine WC.skip ?_
      refine WX.next (?_)
      refine WC.seq ?_
      refine WC.block ?_
      refine WC.seq ?_
      refine WC.region ?_
      refine WL.ex rfl rfl rfl (Ex.mv rfl) ?_
      refine WL.ex rfl rfl rfl (Ex.asg rfl) ?_
      refine WL.nil ?_
      refine WX.next (?_)
      refine WC.seq ?_
      refine WC.region ?_
      refine WL.ex rfl rfl rfl (Ex.mv rfl) ?_
      refine WL.ex rfl rfl rfl (Ex.iaA Tryd.underlying164 sz46 rfl rfl ⟨by omega, by omega⟩) ?_
      refine WL.ex rfl rfl rfl (Ex.load ty46 rfl (M223.cell (i := 1) rfl (u32V_at (i := i) (by rw [hh8.1]; omega) (by simp only [Int.toNat_natCast, Nat.mul_one, Nat.zero_add])))) ?_
      refine WL.ex rfl rfl rfl (Ex.asg rfl) ?_
      refine WL.nil ?_
      refine WX.next (?_)
      refine WC.seq ?_
      refine WC.region ?_
      refine WL.ex rfl rfl rfl (Ex.asg rfl) ?_
      refine WL.nil ?_
      refine WX.next (?_)
      refine WC.block ?_
      refine WC.loop (σ := Nat) (fun m => [(2, .pointer (some ⟨g2, 0, none⟩)), (3, .pointer (some ⟨gh, 0, none⟩)), (16, .pointer (some ⟨g16, 0, none⟩)), (17, .int .i64 (i : Int)), (18, .int .u32 ((hh.getD i 0 / 256 ^ m : Nat) : Int)), (19, .int .i64 (3 - (m : Int))), (205, .int .i64 (i : Int))]) (fun m wr => m ≤ 4 ∧ Mem w wr nof [blk g16 (bytesV (outP hh i m)) 31, blk gh (u32V hh) 164, blk g2 (bytesV (List.replicate 32 0)) 31]) (fun m => 4 - m) (0) ?_ (.cons rfl (.cons rfl (.cons rfl (.cons rfl (.cons (congrArg some (congrArg (Value.int .u32) (by simp))) (.cons (congrArg some (congrArg (Value.int .i64) (by omega))) (.cons rfl .nil))))))) ?_
      · exact ⟨by decide, M223⟩
      rintro m w232 ⟨hm, M232⟩
      refine WC.seq ?_
      refine WC.seq ?_
      refine WC.region ?_
      refine WL.ex rfl rfl rfl (Ex.mv rfl) ?_
      refine WL.ex rfl rfl rfl (Ex.geq rfl rfl) ?_
      refine WL.nil ?_
      refine WX.next (?_)
      refine WC.cond_dec rfl (fun hm4 => ?_) (fun hm4 => ?_)
      · have hm4b : m < 4 := by omega
        refine WC.skip ?_
        refine WX.next (?_)
        refine WC.seq ?_
        refine WC.block ?_
        refine WC.seq ?_
        refine WC.region ?_
        refine WL.ex rfl rfl rfl (Ex.mv rfl) ?_
        refine WL.ex rfl rfl rfl (Ex.mul rfl rfl (c := ((4 * i : Nat) : Int)) (by rw [i64w _ (by omega) (by omega)]; omega)) ?_
        refine WL.ex rfl rfl rfl (Ex.mv rfl) ?_
        refine WL.ex rfl rfl rfl (Ex.add rfl rfl (c := ((4 * i + (3 - m) : Nat) : Int)) (by rw [i64w _ (by omega) (by omega)]; omega)) ?_
        refine WL.ex rfl rfl rfl (Ex.mv rfl) ?_
        refine WL.ex rfl rfl rfl (Ex.rem rfl rfl (by decide) (c := ((hh.getD i 0 / 256 ^ m % 256 : Nat) : Int)) (remN _ 256)) ?_
        refine WL.ex rfl rfl rfl (Ex.cvI Tryd.underlying46 Tryd.underlying5 rfl (c := ((UInt8.ofNat (hh.getD i 0 / 2 ^ (8 * m))).toNat : Int)) (by rw [u8b, ofNat_mod, Nat.pow_mul])) ?_
        refine WL.ex rfl rfl rfl (Ex.iaA Tryd.underlying31 sz5 rfl rfl ⟨by omega, by omega⟩) ?_
        refine WL.ac0 rfl rfl (Ac.st M232 ty5 rfl rfl rfl (i := 0) rfl (by simp [outP]; omega)) ?_; rintro v243 w243 ⟨K243, M243⟩
        try dsimp only [List.set] at M243
        simp only [Int.toNat_natCast, Nat.mul_one, Nat.zero_add] at M243
        rw [bytesV_set, outP_set hh hi8b hm4b] at M243
        refine WL.nil ?_
        refine WX.next (?_)
        refine WC.region ?_
        refine WL.ex rfl rfl rfl (Ex.mv rfl) ?_
        refine WL.ex rfl rfl rfl (Ex.quo rfl rfl (by decide) (c := ((hh.getD i 0 / 256 ^ (m + 1) : Nat) : Int)) (by rw [Nat.pow_succ, ← Nat.div_div_eq_div_mul, show ((((hh.getD i 0 / 256 ^ m : Nat) : Int)).tdiv 256) = ((hh.getD i 0 / 256 ^ m / 256 : Nat) : Int) from (Int.ofNat_tdiv _ 256).symm]; exact u32w_lt _ (Nat.lt_of_le_of_lt (Nat.div_le_self _ _) (Nat.lt_of_le_of_lt (Nat.div_le_self _ _) hgx)))) ?_
        refine WL.ex rfl rfl rfl (Ex.asg rfl) ?_
        refine WL.nil ?_
        refine WX.normal_block (WX.next (?_))
        refine WC.region ?_
        refine WL.ex rfl rfl rfl (Ex.mv rfl) ?_
        refine WL.ex rfl rfl rfl (Ex.sub rfl rfl (i64w _ (by omega) (by omega))) ?_
        refine WL.ex rfl rfl rfl (Ex.asg rfl) ?_
        refine WL.nil ?_
        refine WX.again (m + 1) ?_ ?_ (.cons rfl (.cons rfl (.cons rfl (.cons rfl (.cons rfl (.cons (congrArg some (congrArg (Value.int .i64) (by omega))) (.cons rfl .nil)))))))
        · (try dsimp only); omega
        · exact ⟨by omega, M243⟩
      · obtain rfl : m = 4 := by omega
        refine WC.exit ?_
        refine WX.exit_then (WX.exit_then (WX.exit_block (WX.normal_block (WX.next (?_)))))
        refine WC.region ?_
        refine WL.ex rfl rfl rfl (Ex.add rfl rfl (i64w _ (by omega) (by omega))) ?_
        refine WL.ex rfl rfl rfl (Ex.mv rfl) ?_
        refine WL.nil ?_
        refine WX.again (i + 1) ?_ ?_ (.cons rfl (.cons rfl (.cons rfl (.cons rfl (.nil)))))
        · (try dsimp only); omega
        · exact ⟨by omega, by rw [← outP_4]; exact M232⟩
    · obtain rfl : i = 8 := by omega
      rw [outP_8, hsha] at M223
      refine WC.exit ?_
      refine WX.exit_then (WX.exit_then (WX.exit_block (WX.next (?_))))
      refine WC.seq ?_
      refine WC.region ?_
      refine WL.ex rfl rfl rfl (Ex.loadA ty31 rfl (h32_len hs32) (M223.rdw (i := 0) rfl)) ?_
      refine WL.ac0 rfl rfl (Ac.stA M223 ty31 rfl rfl rfl (h32_len hs32) (bytesV_one _) (i := 2) rfl (by rw [h32_len hs32, h32_len h32_0]; decide)) ?_; rintro v253 w253 ⟨K253, M253⟩
      try dsimp only [List.set] at M253
      rw [splice_all _ _ (by rw [h32_len hs32, h32_len h32_0])] at M253
      refine WL.nil ?_
      refine WX.next (?_)
      refine WC.ret ?_
      refine WX.retc rfl rfl (run_loadVarA ty31 (by exact h32_len hs32) (M253.rdw (i := 2) rfl)) ?_
      exact ⟨rfl, M253.keep⟩

end Go.Proofs.YtchmjpdkonfifaaDoor
