/- Walks, written by gen.py off the translation's own print: each says what the Go function comes to. -/
import Derived.Test.YtfgikoilgmddhaaDoorCa
set_option linter.unusedVariables false
set_option linter.unusedSimpArgs false
namespace Go.Proofs.YtfgikoilgmddhaaDoor
open Go.Sx Go.RowKit
attribute [local irreducible] Ac Ex WL WC WX WP Gives

/- sponsion/sponsionref05.down -/
theorem down_ok (w : World) (x n : Nat) (t : Bool) (hx : x < 4294967296) (hn : n ≤ 32) :
    Gives Tryd.prog 55 #[.int .u32 (x : Int), .int .i64 (n : Int), .bool t] w fun u w1 => u = .int .u32 ((downs t x n : Nat) : Int) ∧ Keep nof w w1 := by
  have M0 := Mem.start w nof
  refine Gives.enter (n := 24) Tryd.func55 rfl Tryd.ntmps55 rfl (env := [(0, .int .u32 (x : Int)), (1, .int .i64 (n : Int)), (2, .bool t)]) rfl ?_
  refine WC.seq ?_
  refine WC.region ?_
  refine WL.ex rfl rfl rfl (Ex.asg rfl) ?_
  refine WL.nil ?_
  refine WX.next (?_)
  refine WC.seq ?_
  refine WC.seq ?_
  refine WC.region ?_
  refine WL.ex rfl rfl rfl (Ex.mv rfl) ?_
  refine WL.ex rfl rfl rfl (Ex.mv rfl) ?_
  refine WL.nil ?_
  refine WX.next (?_)
  refine WC.block ?_
  refine WC.loop (σ := Nat) (fun i => [(0, .int .u32 ((downs t x i : Nat) : Int)), (2, .bool t), (8, .int .i64 (n : Int)), (9, .int .i64 (i : Int))]) (fun i wr => i ≤ n ∧ Mem w wr nof []) (fun i => n - i) (0) ?_ (.cons rfl (.cons rfl (.cons rfl (.cons rfl (.nil))))) ?_
  · exact ⟨by omega, M0⟩
  rintro i w4 ⟨hi, M4⟩
  refine WC.seq ?_
  refine WC.region ?_
  refine WL.ex rfl rfl rfl (Ex.lss rfl rfl) ?_
  refine WL.nil ?_
  refine WX.next (?_)
  refine WC.seq ?_
  refine WC.cond_dec rfl (fun hin => ?_) (fun hin => ?_)
  · obtain ⟨y, hy⟩ : ∃ y, y = downs t x i := ⟨_, rfl⟩
    have hyl : y < 4294967296 := by rw [hy]; exact downs_lt hx t i
    have hs : downs t x (i + 1) = down1 y t := by rw [downs, hy]
    rw [← hy]
    refine WC.skip ?_
    refine WX.next (?_)
    refine WC.seq ?_
    refine WC.block ?_
    refine WC.seq ?_
    refine WC.region ?_
    refine WL.ex rfl rfl rfl (Ex.mv rfl) ?_
    refine WL.ex rfl rfl rfl (Ex.rem rfl rfl (by decide) (c := ((y % 2 : Nat) : Int)) (remN _ 2)) ?_
    refine WL.ex rfl rfl rfl (Ex.asg rfl) ?_
    refine WL.nil ?_
    refine WX.next (?_)
    refine WC.seq ?_
    refine WC.region ?_
    refine WL.ex rfl rfl rfl (Ex.mv rfl) ?_
    refine WL.ex rfl rfl rfl (Ex.quo rfl rfl (by decide) (c := ((y / 2 : Nat) : Int)) (by rw [show ((y : Int).tdiv 2) = ((y / 2 : Nat) : Int) from (Int.ofNat_tdiv y 2).symm]; exact u32w_lt _ (by omega))) ?_
    refine WL.ex rfl rfl rfl (Ex.asg rfl) ?_
    refine WL.nil ?_
    refine WX.next (?_)
    refine WC.seq ?_
    refine WC.region ?_
    refine WL.ex rfl rfl rfl (Ex.mv rfl) ?_
    refine WL.ex rfl rfl rfl (Ex.mv rfl) ?_
    rcases Bool.eq_false_or_eq_true t with ht | ht <;> subst ht
    ·
      refine WL.yes rfl rfl rfl rfl ?_
      refine WL.ex rfl rfl rfl (Ex.mv rfl) ?_
      refine WL.yes rfl rfl rfl rfl ?_
      refine WL.ex rfl rfl rfl (Ex.eqI rfl rfl) ?_
      refine WL.ex rfl rfl rfl (Ex.pickT rfl rfl) ?_
      refine WL.nil ?_
      refine WX.next (?_)
      refine WC.cond_dec rfl (fun hc19 => ?_) (fun hc19 => ?_)
      · skip
        refine WC.region ?_
        refine WL.ex rfl rfl rfl (Ex.mv rfl) ?_
        refine WL.ex rfl rfl rfl (Ex.add rfl rfl (c := ((y / 2 + 2147483648 : Nat) : Int)) (u32w_lt (y / 2 + 2147483648) (by omega))) ?_
        refine WL.ex rfl rfl rfl (Ex.asg rfl) ?_
        refine WL.nil ?_
        refine WX.normal_block (WX.next (?_))
        refine WC.region ?_
        refine WL.ex rfl rfl rfl (Ex.add rfl rfl (i64w _ (by omega) (by omega))) ?_
        refine WL.ex rfl rfl rfl (Ex.mv rfl) ?_
        refine WL.nil ?_
        refine WX.again (i + 1) ?_ ?_ (.cons (by first | rfl | exact congrArg (fun z : Nat => some (Value.int .u32 (z : Int))) (by rw [hs]; unfold down1; first | (rw [if_pos ⟨rfl, by omega⟩]) | (rw [if_neg (fun h => by have := h.2; omega)]) | (rw [if_neg (fun h => by cases h.1)]))) (.cons rfl (.cons rfl (.cons rfl .nil))))
        · (try dsimp only); omega
        · exact ⟨by omega, M4⟩
      · skip
        refine WC.skip ?_
        refine WX.normal_block (WX.next (?_))
        refine WC.region ?_
        refine WL.ex rfl rfl rfl (Ex.add rfl rfl (i64w _ (by omega) (by omega))) ?_
        refine WL.ex rfl rfl rfl (Ex.mv rfl) ?_
        refine WL.nil ?_
        refine WX.again (i + 1) ?_ ?_ (.cons (by first | rfl | exact congrArg (fun z : Nat => some (Value.int .u32 (z : Int))) (by rw [hs]; unfold down1; first | (rw [if_pos ⟨rfl, by omega⟩]) | (rw [if_neg (fun h => by have := h.2; omega)]) | (rw [if_neg (fun h => by cases h.1)]))) (.cons rfl (.cons rfl (.cons rfl .nil))))
        · (try dsimp only); omega
        · exact ⟨by omega, M4⟩
    ·
      refine WL.no rfl rfl rfl rfl rfl rfl ?_
      refine WL.no rfl rfl rfl rfl rfl rfl ?_
      refine WL.ex rfl rfl rfl (Ex.pickF rfl rfl) ?_
      refine WL.nil ?_
      refine WX.next (?_)
      refine WC.no rfl ?_
      refine WC.skip ?_
      refine WX.normal_block (WX.next (?_))
      refine WC.region ?_
      refine WL.ex rfl rfl rfl (Ex.add rfl rfl (i64w _ (by omega) (by omega))) ?_
      refine WL.ex rfl rfl rfl (Ex.mv rfl) ?_
      refine WL.nil ?_
      refine WX.again (i + 1) ?_ ?_ (.cons (by first | rfl | exact congrArg (fun z : Nat => some (Value.int .u32 (z : Int))) (by rw [hs]; unfold down1; first | (rw [if_pos ⟨rfl, by omega⟩]) | (rw [if_neg (fun h => by have := h.2; omega)]) | (rw [if_neg (fun h => by cases h.1)]))) (.cons rfl (.cons rfl (.cons rfl .nil))))
      · (try dsimp only); omega
      · exact ⟨by omega, M4⟩
  · obtain rfl : i = n := by omega
    refine WC.exit ?_
    refine WX.exit_then (WX.exit_then (WX.exit_block (WX.next (?_))))
    refine WC.seq ?_
    refine WC.region ?_
    refine WL.ex rfl rfl rfl (Ex.mv rfl) ?_
    refine WL.ex rfl rfl rfl (Ex.asg rfl) ?_
    refine WL.nil ?_
    refine WX.next (?_)
    refine WC.ret ?_
    refine WX.ret1 rfl rfl ?_
    exact ⟨rfl, M4.keep⟩

theorem downT_ok (w : World) (x n : Nat) (hx : x < 4294967296) (hn : n ≤ 32) :
    Gives Tryd.prog 55 #[.int .u32 (x : Int), .int .i64 (n : Int), .bool true] w fun u w1 => u = .int .u32 ((rotr n x : Nat) : Int) ∧ Keep nof w w1 := by
  have := down_ok w x n true hx hn
  rwa [downs_true x n hn] at this
theorem downF_ok (w : World) (x n : Nat) (hx : x < 4294967296) (hn : n ≤ 32) :
    Gives Tryd.prog 55 #[.int .u32 (x : Int), .int .i64 (n : Int), .bool false] w fun u w1 => u = .int .u32 ((x / 2 ^ n : Nat) : Int) ∧ Keep nof w w1 := by
  have := down_ok w x n false hx hn
  rwa [downs_false x n] at this

/- sponsion/sponsionref05.both -/
theorem both_ok (w : World) (a b c : Nat) (ha : a < 4294967296) (hb : b < 4294967296) (hc : c < 4294967296) :
    Gives Tryd.prog 54 #[.int .u32 (a : Int), .int .u32 (b : Int), .int .u32 (c : Int)] w fun u w1 => u = .int .u32 ((a ^^^ b ^^^ c : Nat) : Int) ∧ Keep nof w w1 := by
  have M0 := Mem.start w nof
  refine Gives.enter (n := 12) Tryd.func54 rfl Tryd.ntmps54 rfl (env := [(0, .int .u32 (a : Int)), (1, .int .u32 (b : Int)), (2, .int .u32 (c : Int))]) rfl ?_
  refine WC.seq ?_
  refine WC.region ?_
  refine WL.ex rfl rfl rfl (Ex.asg rfl) ?_
  refine WL.nil ?_
  refine WX.next (?_)
  refine WC.seq ?_
  refine WC.region ?_
  refine WL.ex rfl rfl rfl (Ex.mv rfl) ?_
  refine WL.ex rfl rfl rfl (Ex.mv rfl) ?_
  refine WL.ex rfl rfl rfl (Ex.bxor rfl rfl (bxor32 ha hb rfl)) ?_
  refine WL.ex rfl rfl rfl (Ex.mv rfl) ?_
  refine WL.ex rfl rfl rfl (Ex.bxor rfl rfl (bxor32 (xor32 ha hb) hc rfl)) ?_
  refine WL.ex rfl rfl rfl (Ex.asg rfl) ?_
  refine WL.nil ?_
  refine WX.next (?_)
  refine WC.ret ?_
  refine WX.ret1 rfl rfl ?_
  exact ⟨rfl, M0.keep⟩

def zerosK (n : Nat) : Nat := (119 - n % 64) % 64
def padA (b : List UInt8) (k : Nat) : List UInt8 := b ++ [128] ++ List.replicate k 0
theorem padA_length (b : List UInt8) (k : Nat) : (padA b k).length = b.length + 1 + k := by simp [padA]; omega
theorem padA_succ (b : List UInt8) (k : Nat) : padA b k ++ [0] = padA b (k + 1) := by rw [padA, padA, List.append_assoc, ← List.replicate_succ']
def padB (b : List UInt8) (i : Nat) : List UInt8 := b ++ tailTo b.length i
theorem padB_0 (b : List UInt8) : padA b (zerosK b.length) = padB b 0 := by simp [padA, padB, tailTo, zerosK]
theorem padB_succ (b : List UInt8) {i : Nat} (h : i < 8) : padB b i ++ [UInt8.ofNat (8 * b.length / 2 ^ (56 - 8 * i))] = padB b (i + 1) := by rw [padB, List.append_assoc, tailTo_succ _ h, padB]
theorem padB_8 (b : List UInt8) : padB b 8 = pad b := by rw [padB, tailTo_8, pad]
theorem unit_pow {i : Nat} (h : i < 8) : 72057594037927936 / 256 ^ i = 2 ^ (56 - 8 * i) := by
  rcases (by omega : i = 0 ∨ i = 1 ∨ i = 2 ∨ i = 3 ∨ i = 4 ∨ i = 5 ∨ i = 6 ∨ i = 7) with rfl | rfl | rfl | rfl | rfl | rfl | rfl | rfl <;> decide
theorem unit_8 : 72057594037927936 / 256 ^ 8 = 0 := by decide

/- sponsion/sponsionref05.Padded -/
theorem padded_ok (w : World) (A : Option Addr) (c : Nat) (b : List UInt8) (hr : Rd w A (bytesV b)) (hb : b.length ≤ 1000000000000) :
    Gives Tryd.prog 53 #[.slice A b.length c] w fun u w1 => New w w1 (row u 5 1 (pad b).length (bytesV (pad b))) := by
  have M0 := Mem.start w nof
  refine Gives.enter (n := 36) Tryd.func53 rfl Tryd.ntmps53 rfl (env := [(0, .slice A b.length c)]) rfl ?_
  refine WC.seq ?_
  refine WC.region ?_
  refine WL.ex rfl rfl rfl (Ex.asg rfl) ?_
  refine WL.nil ?_
  refine WX.next (?_)
  refine WC.seq ?_
  refine WC.region ?_
  refine WL.ac rfl rfl rfl (Ac.bs0 M0 Tryd.underlying79 sz5) ?_; rintro v2 w2 ⟨g2, rfl, hg2, K2, M2⟩
  refine WL.ex rfl rfl rfl (Ex.mv rfl) ?_
  refine WL.ac rfl rfl rfl (Ac.app M2 el79 rfl rfl (i := 0) rfl (by simp) (M2.rd hr) (bytesV_one _) (by omega) (by simp [maxLen]; omega)) ?_; rintro v4 w4 ⟨K4, M4⟩
  try dsimp only [List.set] at M4
  obtain ⟨v1, rfl⟩ : ∃ v1, v1 = v4 := ⟨_, rfl⟩
  simp only [Nat.zero_add, List.nil_append] at M4
  refine WL.ex rfl rfl rfl (Ex.asg rfl) ?_
  refine WL.nil ?_
  refine WX.next (?_)
  refine WC.seq ?_
  refine WC.region ?_
  refine WL.ex rfl rfl rfl (Ex.mv rfl) ?_
  refine WL.ac rfl rfl rfl (Ac.bs M4 (parts := [(0, .const (.int .u8 128))]) (l := bytesV [128]) rfl rfl (LitS.one el79 rfl)) ?_; rintro v7 w7 ⟨g7, rfl, hg7, K7, M7⟩
  refine WL.ac rfl rfl rfl (Ac.app M7 el79 rfl rfl (i := 1) rfl rfl (M7.rdw (i := 0) rfl) (by first | exact bytesV_one _ | simp [Value.oneCell']) (by omega) (by simp [maxLen]; omega)) ?_; rintro v8 w8 ⟨K8, M8⟩
  try dsimp only [List.set] at M8
  obtain ⟨v2, rfl⟩ : ∃ v2, v2 = v8 := ⟨_, rfl⟩
  rw [← bytesV_append] at M8
  replace M8 := M8.eqv (i := 1) rfl (r' := row v2 5 1 (padA b 0).length (bytesV (padA b 0))) (by simp [padA])
  try dsimp only [List.set] at M8
  refine WL.ex rfl rfl rfl (Ex.asg rfl) ?_
  refine WL.nil ?_
  refine WX.next (?_)
  refine WC.seq ?_
  refine WC.block ?_
  refine WC.loop (σ := Nat × Value) (fun s => [(0, .slice A b.length c), (3, s.2)]) (fun s wr => s.1 ≤ zerosK b.length ∧ Mem w wr nof [row s.2 5 1 (padA b s.1).length (bytesV (padA b s.1))]) (fun s => zerosK b.length - s.1) (((0, v2) : Nat × Value)) ?_ (.cons rfl (.cons rfl (.nil))) ?_
  · exact ⟨by simp, (Mem.sub M8 (.cons _ (.refl _)))⟩
  rintro ⟨k, v3⟩ w10 ⟨hk, M10⟩
  dsimp only at hk M10
  refine WC.sub (env' := [(0, .slice A b.length c), (3, v3)]) (.cons rfl (.cons rfl (.nil))) ?_
  refine WC.seq ?_
  refine WC.seq ?_
  refine WC.region ?_
  refine WL.ex rfl rfl rfl (Ex.mv rfl) ?_
  have hpl := padA_length b k
  obtain ⟨A3, c3, hv3⟩ := own_slice (M10.get (i := 0) rfl)
  subst hv3
  refine WL.ex rfl rfl rfl (Ex.len Tryd.underlying79 rfl) ?_
  refine WL.ex rfl rfl rfl (Ex.rem rfl rfl (by decide) (c := (((padA b k).length % 64 : Nat) : Int)) (remN _ 64)) ?_
  refine WL.ex rfl rfl rfl (Ex.neI rfl rfl) ?_
  refine WL.nil ?_
  refine WX.next (?_)
  refine WC.cond rfl (fun h56 => ?_) (fun h56 => ?_)
  · have hz56 : ¬ (padA b k).length % 64 = 56 := by intro h; simp [h] at h56
    have hlt : k < zerosK b.length := by rw [hpl] at hz56; unfold zerosK at hk ⊢; omega
    have hk63 : k < 64 := by unfold zerosK at hlt; omega
    refine WC.skip ?_
    refine WX.next (?_)
    refine WC.block ?_
    refine WC.region ?_
    refine WL.ex rfl rfl rfl (Ex.mv rfl) ?_
    refine WL.ac rfl rfl rfl (Ac.bs M10 (parts := [(0, .const (.int .u8 0))]) (l := bytesV [0]) rfl rfl (LitS.one el79 rfl)) ?_; rintro v16 w16 ⟨g16, rfl, hg16, K16, M16⟩
    refine WL.ac rfl rfl rfl (Ac.app M16 el79 rfl rfl (i := 1) rfl rfl (M16.rdw (i := 0) rfl) (by first | exact bytesV_one _ | simp [Value.oneCell']) (by omega) (by simp [maxLen]; omega)) ?_; rintro v17 w17 ⟨K17, M17⟩
    try dsimp only [List.set] at M17
    obtain ⟨v4, rfl⟩ : ∃ v4, v4 = v17 := ⟨_, rfl⟩
    rw [← bytesV_append, padA_succ] at M17
    replace M17 := M17.eqv (i := 1) rfl (r' := row v4 5 1 (padA b (k + 1)).length (bytesV (padA b (k + 1)))) (by rw [padA_length, padA_length]; rfl)
    try dsimp only [List.set] at M17
    refine WL.ex rfl rfl rfl (Ex.asg rfl) ?_
    refine WL.nil ?_
    refine WX.normal_block (?_)
    refine WX.again (((k + 1, v4) : Nat × Value)) ?_ ?_ (.cons rfl (.cons rfl (.nil)))
    · dsimp only; omega
    · exact ⟨by dsimp only; omega, (Mem.sub M17 (.cons _ (.refl _)))⟩
  · have hz56 : (padA b k).length % 64 = 56 := by
      have : ((padA b k).length % 64 : Int) = 56 := by simpa using h56
      omega
    obtain rfl : k = zerosK b.length := by rw [hpl] at hz56; unfold zerosK at hk ⊢; omega
    rw [padB_0] at M10 ⊢
    refine WC.exit ?_
    refine WX.exit_then (WX.exit_then (WX.exit_block (WX.next (?_))))
    refine WC.seq ?_
    refine WC.region ?_
    refine WL.ex rfl rfl rfl (Ex.mv rfl) ?_
    refine WL.ex rfl rfl rfl (Ex.len Tryd.underlying79 rfl) ?_
    refine WL.ex rfl rfl rfl (Ex.cvI Tryd.underlying3 Tryd.underlying23 rfl (u64w_lt _ (by omega))) ?_
    refine WL.ex rfl rfl rfl (Ex.mul rfl rfl (c := ((8 * b.length : Nat) : Int)) (by rw [show (b.length : Int) * 8 = ((8 * b.length : Nat) : Int) by omega]; exact u64w_lt _ (by omega))) ?_
    refine WL.ex rfl rfl rfl (Ex.asg rfl) ?_
    refine WL.nil ?_
    refine WX.next (?_)
    refine WC.seq ?_
    refine WC.region ?_
    refine WL.ex rfl rfl rfl (Ex.asg rfl) ?_
    refine WL.nil ?_
    refine WX.next (?_)
    refine WC.seq ?_
    refine WC.block ?_
    refine WC.loop (σ := Nat × Value) (fun s => [(3, s.2), (4, .int .u64 ((8 * b.length : Nat) : Int)), (5, .int .u64 ((72057594037927936 / 256 ^ s.1 : Nat) : Int))]) (fun s wr => s.1 ≤ 8 ∧ Mem w wr nof [row s.2 5 1 (padB b s.1).length (bytesV (padB b s.1))]) (fun s => 8 - s.1) (((0, .slice A3 (padB b 0).length c3) : Nat × Value)) ?_ (.cons rfl (.cons rfl (.cons (congrArg some (congrArg (Value.int .u64) (by simp))) .nil))) ?_
    · exact ⟨by simp, M10⟩
    rintro ⟨i, v5⟩ w25 ⟨hi, M25⟩
    dsimp only at hi M25
    refine WC.sub (env' := [(3, v5), (4, .int .u64 ((8 * b.length : Nat) : Int)), (5, .int .u64 ((72057594037927936 / 256 ^ i : Nat) : Int))]) (.cons rfl (.cons rfl (.cons rfl (.nil)))) ?_
    refine WC.seq ?_
    refine WC.seq ?_
    refine WC.region ?_
    refine WL.ex rfl rfl rfl (Ex.mv rfl) ?_
    refine WL.ex rfl rfl rfl (Ex.gtr rfl rfl) ?_
    refine WL.nil ?_
    refine WX.next (?_)
    refine WC.cond_dec rfl (fun hu => ?_) (fun hu => ?_)
    · have hi8 : i < 8 := by
        rcases Nat.lt_or_ge i 8 with h | h
        · exact h
        · obtain rfl : i = 8 := by omega
          rw [unit_8] at hu
          exact absurd hu (by decide)
      have hup := unit_pow hi8
      have hpb : (padB b i).length = b.length + (1 + (119 - b.length % 64) % 64 + min i 8) := by rw [padB, List.length_append, tailTo_length]
      refine WC.skip ?_
      refine WX.next (?_)
      refine WC.block ?_
      refine WC.seq ?_
      refine WC.region ?_
      refine WL.ex rfl rfl rfl (Ex.mv rfl) ?_
      refine WL.ex rfl rfl rfl (Ex.mv rfl) ?_
      refine WL.ex rfl rfl rfl (Ex.mv rfl) ?_
      refine WL.ex rfl rfl rfl (Ex.quo rfl rfl (by rw [hup]; exact_mod_cast Nat.ne_of_gt (Nat.pow_pos (by decide))) (c := ((8 * b.length / 2 ^ (56 - 8 * i) : Nat) : Int)) (by rw [hup]; exact u64quo _ _ (by omega))) ?_
      refine WL.ex rfl rfl rfl (Ex.rem rfl rfl (by decide) (c := ((8 * b.length / 2 ^ (56 - 8 * i) % 256 : Nat) : Int)) (remN _ 256)) ?_
      refine WL.ex rfl rfl rfl (Ex.cvI Tryd.underlying23 Tryd.underlying5 rfl (c := ((UInt8.ofNat (8 * b.length / 2 ^ (56 - 8 * i))).toNat : Int)) (by rw [u8b, ofNat_mod])) ?_
      refine WL.ac rfl rfl rfl (Ac.bs M25 (parts := [(0, .tmp 30)]) rfl rfl (LitS.one el79 rfl)) ?_; rintro v34 w34 ⟨g34, rfl, hg34, K34, M34⟩
      refine WL.ac rfl rfl rfl (Ac.app M34 el79 rfl rfl (i := 1) rfl rfl (M34.rdw (i := 0) rfl) (by first | exact bytesV_one _ | simp [Value.oneCell']) (by omega) (by simp [maxLen]; omega)) ?_; rintro v35 w35 ⟨K35, M35⟩
      try dsimp only [List.set] at M35
      obtain ⟨v6, rfl⟩ : ∃ v6, v6 = v35 := ⟨_, rfl⟩
      rw [bytesV_snoc, len_snoc, padB_succ _ hi8] at M35
      refine WL.ex rfl rfl rfl (Ex.asg rfl) ?_
      refine WL.nil ?_
      refine WX.next (?_)
      refine WC.region ?_
      refine WL.ex rfl rfl rfl (Ex.mv rfl) ?_
      refine WL.ex rfl rfl rfl (Ex.quo rfl rfl (by decide) (c := ((72057594037927936 / 256 ^ (i + 1) : Nat) : Int)) (by rw [Nat.pow_succ, ← Nat.div_div_eq_div_mul]; exact u64quo _ 256 (Nat.lt_of_le_of_lt (Nat.div_le_self _ _) (by decide)))) ?_
      refine WL.ex rfl rfl rfl (Ex.asg rfl) ?_
      refine WL.nil ?_
      refine WX.normal_block (?_)
      refine WX.again (((i + 1, v6) : Nat × Value)) ?_ ?_ (.cons rfl (.cons rfl (.cons rfl (.nil))))
      · dsimp only; omega
      · exact ⟨by dsimp only; omega, (Mem.sub M35 (.cons _ (.refl _)))⟩
    · have hi8 : i = 8 := by
        rcases Nat.lt_or_ge i 8 with h | h
        · rw [unit_pow h] at hu
          exact absurd (by exact_mod_cast Nat.pow_pos (by decide)) hu
        · omega
      subst hi8
      rw [padB_8] at M25
      refine WC.exit ?_
      refine WX.exit_then (WX.exit_then (WX.exit_block (WX.next (?_))))
      refine WC.seq ?_
      refine WC.region ?_
      refine WL.ex rfl rfl rfl (Ex.mv rfl) ?_
      refine WL.ex rfl rfl rfl (Ex.asg rfl) ?_
      refine WL.nil ?_
      refine WX.next (?_)
      refine WC.ret ?_
      refine WX.ret1 rfl rfl ?_
      exact (M25).toNew

end Go.Proofs.YtfgikoilgmddhaaDoor
