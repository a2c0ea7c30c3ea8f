/- Sums of numbers of 256 bits: by limbs and by digits of 16 bits; the plain words. My own text. -/
import Derived.Test.YtchmjpdkonfifaaDoorCod
set_option linter.unusedVariables false
set_option linter.unusedSimpArgs false
namespace Go.Sx
theorem int4_0 : Int4 [0, 0, 0, 0] := int4z
/-- The number of a row of limbs, the lowest first. -/
def v64 : List Nat → Nat
  | [] => 0
  | a :: l => a + 18446744073709551616 * v64 l
abbrev z4 : List Nat := [0, 0, 0, 0]
/-- The four limbs of a number. -/
def lm4 (x : Nat) : List Nat := [x % 18446744073709551616, x / 18446744073709551616 % 18446744073709551616, x / 340282366920938463463374607431768211456 % 18446744073709551616, x / 6277101735386680763835789423207666416102355444464034512896 % 18446744073709551616]
def M256 : Nat := 115792089237316195423570985008687907853269984665640564039457584007913129639936
theorem int4_four {a : List Nat} (h : Int4 a) : ∃ a0 a1 a2 a3, a = [a0, a1, a2, a3] ∧ a0 < 18446744073709551616 ∧ a1 < 18446744073709551616 ∧ a2 < 18446744073709551616 ∧ a3 < 18446744073709551616 := by
  obtain ⟨hl, hb⟩ := h
  match a, hl with
  | [a0, a1, a2, a3], _ => exact ⟨a0, a1, a2, a3, rfl, by simpa using hb 0, by simpa using hb 1, by simpa using hb 2, by simpa using hb 3⟩
theorem lm4_ok (x : Nat) : Int4 (lm4 x) := int4mk rfl fun y hy => by
  simp only [lm4, List.mem_cons, List.not_mem_nil, or_false] at hy
  rcases hy with rfl | rfl | rfl | rfl <;> exact Nat.mod_lt _ (by decide)
theorem v64_lt {a : List Nat} (h : Int4 a) : v64 a < M256 := by
  obtain ⟨a0, a1, a2, a3, rfl, h0, h1, h2, h3⟩ := int4_four h
  simp only [v64, M256]
  omega
/-- The carry into a limb. -/
def car (a b : List Nat) : Nat → Nat
  | 0 => 0
  | i + 1 => (a.getD i 0 + b.getD i 0 + car a b i) / 18446744073709551616
def lmb (a b : List Nat) (i : Nat) : Nat := (a.getD i 0 + b.getD i 0 + car a b i) % 18446744073709551616
theorem car_le {a b : List Nat} (ha : Int4 a) (hb : Int4 b) : ∀ i, car a b i ≤ 1
  | 0 => Nat.zero_le _
  | i + 1 => by
    have h1 := ha.2 i
    have h2 := hb.2 i
    have h3 := car_le ha hb i
    rw [car]
    omega
theorem lmb_lt (a b : List Nat) (i : Nat) : lmb a b i < 18446744073709551616 := Nat.mod_lt _ (by decide)
theorem fill4_ok (a b : List Nat) (i : Nat) : Int4 (fillTo 4 i (lmb a b) 0) := int4mk (by simp) fun y hy => by
  obtain ⟨t, _, rfl⟩ := List.mem_map.1 hy
  split
  · exact lmb_lt a b t
  · decide
theorem chain_eq {a b : List Nat} (ha : Int4 a) (hb : Int4 b) : v64 (fillTo 4 4 (lmb a b) 0) + M256 * car a b 4 = v64 a + v64 b := by
  obtain ⟨a0, a1, a2, a3, rfl, h0, h1, h2, h3⟩ := int4_four ha
  obtain ⟨b0, b1, b2, b3, rfl, k0, k1, k2, k3⟩ := int4_four hb
  have e0 : lmb [a0, a1, a2, a3] [b0, b1, b2, b3] 0 + 18446744073709551616 * car [a0, a1, a2, a3] [b0, b1, b2, b3] 1 = a0 + b0 := Nat.mod_add_div _ _
  have e1 : lmb [a0, a1, a2, a3] [b0, b1, b2, b3] 1 + 18446744073709551616 * car [a0, a1, a2, a3] [b0, b1, b2, b3] 2 = a1 + b1 + car [a0, a1, a2, a3] [b0, b1, b2, b3] 1 := Nat.mod_add_div _ _
  have e2 : lmb [a0, a1, a2, a3] [b0, b1, b2, b3] 2 + 18446744073709551616 * car [a0, a1, a2, a3] [b0, b1, b2, b3] 3 = a2 + b2 + car [a0, a1, a2, a3] [b0, b1, b2, b3] 2 := Nat.mod_add_div _ _
  have e3 : lmb [a0, a1, a2, a3] [b0, b1, b2, b3] 3 + 18446744073709551616 * car [a0, a1, a2, a3] [b0, b1, b2, b3] 4 = a3 + b3 + car [a0, a1, a2, a3] [b0, b1, b2, b3] 3 := Nat.mod_add_div _ _
  show v64 [lmb _ _ 0, lmb _ _ 1, lmb _ _ 2, lmb _ _ 3] + _ = _
  simp only [v64, M256]
  generalize lmb [a0, a1, a2, a3] [b0, b1, b2, b3] 0 = o0 at *
  generalize lmb [a0, a1, a2, a3] [b0, b1, b2, b3] 1 = o1 at *
  generalize lmb [a0, a1, a2, a3] [b0, b1, b2, b3] 2 = o2 at *
  generalize lmb [a0, a1, a2, a3] [b0, b1, b2, b3] 3 = o3 at *
  generalize car [a0, a1, a2, a3] [b0, b1, b2, b3] 1 = c1 at *
  generalize car [a0, a1, a2, a3] [b0, b1, b2, b3] 2 = c2 at *
  generalize car [a0, a1, a2, a3] [b0, b1, b2, b3] 3 = c3 at *
  generalize car [a0, a1, a2, a3] [b0, b1, b2, b3] 4 = c4 at *
  omega
theorem lm4_v {a : List Nat} (h : Int4 a) : lm4 (v64 a) = a := by
  obtain ⟨a0, a1, a2, a3, rfl, h0, h1, h2, h3⟩ := int4_four h
  have e : v64 [a0, a1, a2, a3] = a0 + 18446744073709551616 * (a1 + 18446744073709551616 * (a2 + 18446744073709551616 * a3)) := by simp only [v64]; omega
  have d1 : (a0 + 18446744073709551616 * (a1 + 18446744073709551616 * (a2 + 18446744073709551616 * a3))) / 18446744073709551616 = a1 + 18446744073709551616 * (a2 + 18446744073709551616 * a3) := by omega
  have d2 : (a1 + 18446744073709551616 * (a2 + 18446744073709551616 * a3)) / 18446744073709551616 = a2 + 18446744073709551616 * a3 := by omega
  have d3 : (a2 + 18446744073709551616 * a3) / 18446744073709551616 = a3 := by omega
  rw [lm4, e, show (340282366920938463463374607431768211456 : Nat) = 18446744073709551616 * 18446744073709551616 from rfl, show (6277101735386680763835789423207666416102355444464034512896 : Nat) = 18446744073709551616 * 18446744073709551616 * 18446744073709551616 from rfl, ← Nat.div_div_eq_div_mul, ← Nat.div_div_eq_div_mul, ← Nat.div_div_eq_div_mul, d1, d2, d3]
  have m0 : (a0 + 18446744073709551616 * (a1 + 18446744073709551616 * (a2 + 18446744073709551616 * a3))) % 18446744073709551616 = a0 := by omega
  have m1 : (a1 + 18446744073709551616 * (a2 + 18446744073709551616 * a3)) % 18446744073709551616 = a1 := by omega
  have m2 : (a2 + 18446744073709551616 * a3) % 18446744073709551616 = a2 := by omega
  rw [m0, m1, m2, Nat.mod_eq_of_lt h3]
/-- What is told of a sum. -/
def addI (x y : Nat) : List Nat × Int := if x + y < M256 then (lm4 (x + y), 0) else (z4, 2)
theorem chain_0 {a b : List Nat} (ha : Int4 a) (hb : Int4 b) (h : car a b 4 = 0) : addI (v64 a) (v64 b) = (fillTo 4 4 (lmb a b) 0, 0) := by
  have h1 := chain_eq ha hb
  have h2 := v64_lt (fill4_ok a b 4)
  rw [h] at h1
  have h3 : v64 a + v64 b = v64 (fillTo 4 4 (lmb a b) 0) := by omega
  rw [addI, if_pos (by omega), h3, lm4_v (fill4_ok a b 4)]
theorem chain_1 {a b : List Nat} (ha : Int4 a) (hb : Int4 b) (h : car a b 4 ≠ 0) : addI (v64 a) (v64 b) = (z4, 2) := by
  have h1 := chain_eq ha hb
  have h2 := car_le ha hb 4
  have h3 : car a b 4 = 1 := by omega
  rw [h3] at h1
  rw [addI, if_neg (by omega)]
/-- The number of all. -/
def vsum : List (List Nat) → Nat
  | [] => 0
  | a :: l => v64 a + vsum l
def sumI (x : Nat) : List Nat × Int := if x < M256 then (lm4 x, 0) else (z4, 2)
theorem vsum_app (l m : List (List Nat)) : vsum (l ++ m) = vsum l + vsum m := by
  induction l with
  | nil => simp [vsum]
  | cons a l ih => rw [List.cons_append, vsum, vsum, ih, Nat.add_assoc]
theorem vsum_snoc (l : List (List Nat)) (a : List Nat) : vsum (l ++ [a]) = vsum l + v64 a := by rw [vsum_app]; rfl
theorem vsum_take (l : List (List Nat)) (i : Nat) : vsum (l.take i) ≤ vsum l := by
  have : vsum l = vsum (l.take i) + vsum (l.drop i) := by rw [← vsum_app, List.take_append_drop]
  omega
theorem v64_lm4 {x : Nat} (h : x < M256) : v64 (lm4 x) = x := by
  simp only [lm4, v64, M256] at h ⊢
  rw [show (340282366920938463463374607431768211456 : Nat) = 18446744073709551616 * 18446744073709551616 from rfl, show (6277101735386680763835789423207666416102355444464034512896 : Nat) = 18446744073709551616 * 18446744073709551616 * 18446744073709551616 from rfl, ← Nat.div_div_eq_div_mul, ← Nat.div_div_eq_div_mul, ← Nat.div_div_eq_div_mul]
  obtain ⟨q1, h1⟩ : ∃ q, q = x / 18446744073709551616 := ⟨_, rfl⟩
  rw [← h1]
  obtain ⟨q2, h2⟩ : ∃ q, q = q1 / 18446744073709551616 := ⟨_, rfl⟩
  rw [← h2]
  obtain ⟨q3, h3⟩ : ∃ q, q = q2 / 18446744073709551616 := ⟨_, rfl⟩
  rw [← h3]
  omega
/-! ### Digits of 16 bits -/
def i64V (l : List Nat) : List Value := l.map fun (x : Nat) => .int .i64 (x : Int)
@[simp] theorem i64V_length (l : List Nat) : (i64V l).length = l.length := by simp [i64V]
theorem i64V_get {l : List Nat} {i x : Nat} (h : l[i]? = some x) : (i64V l)[i]? = some (.int .i64 (x : Int)) := by simp [i64V, h]
theorem i64V_one (l : List Nat) : ∀ u ∈ i64V l, u.oneCell' = true := by
  intro u hu
  obtain ⟨x, _, rfl⟩ := List.mem_map.1 hu
  rfl
theorem i64V_take (l : List Nat) (n : Nat) : i64V (l.take n) = (i64V l).take n := by simp [i64V, List.map_take]
theorem i64V_app (l m : List Nat) : i64V (l ++ m) = i64V l ++ i64V m := by simp [i64V]
def dv : List Nat → Nat
  | [] => 0
  | a :: l => a + 65536 * dv l
abbrev Dig (l : List Nat) : Prop := ∀ d ∈ l, d < 65536
theorem dv_app (l m : List Nat) : dv (l ++ m) = dv l + 65536 ^ l.length * dv m := by
  induction l with
  | nil => simp [dv]
  | cons a l ih =>
    rw [List.cons_append, dv, dv, ih, List.length_cons, Nat.pow_succ, Nat.mul_add, Nat.mul_comm (65536 ^ l.length) 65536, Nat.mul_assoc]
    omega
theorem dv_lt {l : List Nat} (h : Dig l) : dv l < 65536 ^ l.length := by
  induction l with
  | nil => simp [dv]
  | cons a l ih =>
    have h1 := ih fun d hd => h d (List.mem_cons_of_mem _ hd)
    have h2 := h a List.mem_cons_self
    rw [dv, List.length_cons, Nat.pow_succ]
    omega
theorem dv_take (l : List Nat) (k : Nat) : dv l = dv (l.take k) + 65536 ^ (l.take k).length * dv (l.drop k) := by
  rw [← dv_app, List.take_append_drop]
theorem dv_zeros (l : List Nat) (h : ∀ d ∈ l, d = 0) : dv l = 0 := by
  induction l with
  | nil => rfl
  | cons a l ih => rw [dv, h a List.mem_cons_self, ih fun d hd => h d (List.mem_cons_of_mem _ hd)]
/-- Where the row ends, without noughts. -/
structure Trm (l : List Nat) (n : Nat) : Prop where
  le : n ≤ l.length
  val : dv (l.take n) = dv l
  last : n = 0 ∨ ∃ d, l[n - 1]? = some d ∧ d ≠ 0
theorem trm_start (l : List Nat) : dv (l.take l.length) = dv l := by rw [List.take_length]
theorem trm_step {l : List Nat} {n : Nat} (h : dv (l.take (n + 1)) = dv l) (h0 : l[n]? = some 0) : dv (l.take n) = dv l := by
  rw [← h, List.take_add_one, h0, dv_app]
  simp [dv]
theorem Trm.big {l : List Nat} {n : Nat} (h : Trm l n) (hn : 16 < n) : M256 ≤ dv l := by
  rcases h.last with h1 | ⟨d, h1, h2⟩
  · omega
  · have h3 : l.take n = l.take (n - 1) ++ [d] := by
      have := List.take_add_one (l := l) (i := n - 1)
      rw [h1, Nat.sub_add_cancel (by omega)] at this
      simpa using this
    have hl : (l.take (n - 1)).length = n - 1 := by rw [List.length_take]; have := h.le; omega
    rw [← h.val, h3, dv_app, hl, dv, dv]
    have h4 : 65536 ^ 16 ≤ 65536 ^ (n - 1) := Nat.pow_le_pow_right (by decide) (by omega)
    have h5 : 65536 ^ (n - 1) * 1 ≤ 65536 ^ (n - 1) * (d + 65536 * 0) := Nat.mul_le_mul_left _ (by omega)
    have h6 : (65536 : Nat) ^ 16 = M256 := by decide
    omega
theorem Trm.small {l : List Nat} {n : Nat} (h : Trm l n) (hd : Dig l) (hn : n ≤ 16) : dv l < M256 := by
  have h1 := dv_lt (l := l.take n) fun d hx => hd d (List.mem_of_mem_take hx)
  rw [h.val] at h1
  have h4 : 65536 ^ (l.take n).length ≤ 65536 ^ 16 := Nat.pow_le_pow_right (by decide) (by rw [List.length_take]; omega)
  have h6 : (65536 : Nat) ^ 16 = M256 := by decide
  omega
theorem dig_take {l : List Nat} (h : Dig l) (n : Nat) : Dig (l.take n) := fun d hd => h d (List.mem_of_mem_take hd)
/-- The digits of one limb. -/
def d4 (x : Nat) : List Nat := [x % 65536, x / 65536 % 65536, x / 4294967296 % 65536, x / 281474976710656 % 65536]
theorem d4_dig (x : Nat) : Dig (d4 x) := fun d hd => by
  simp only [d4, List.mem_cons, List.not_mem_nil, or_false] at hd
  rcases hd with rfl | rfl | rfl | rfl <;> exact Nat.mod_lt _ (by decide)
theorem d4_val {x : Nat} (h : x < 18446744073709551616) : dv (d4 x) = x := by
  simp only [d4, dv]
  omega
theorem d4_take (x : Nat) : ∀ k, k < 4 → (d4 x).take (k + 1) = (d4 x).take k ++ [x / 65536 ^ k % 65536]
  | 0, _ => by simp [d4]
  | 1, _ => by simp [d4]
  | 2, _ => by simp [d4]
  | 3, _ => by simp [d4]
def r16 (a : List Nat) : List Nat := a.flatMap d4
theorem r16_dig (a : List Nat) : Dig (r16 a) := fun d hd => by
  obtain ⟨x, _, hx⟩ := List.mem_flatMap.1 hd
  exact d4_dig x d hx
theorem r16_val {a : List Nat} (h : ∀ x ∈ a, x < 18446744073709551616) : dv (r16 a) = v64 a := by
  induction a with
  | nil => rfl
  | cons x a ih =>
    have h1 := ih fun y hy => h y (List.mem_cons_of_mem _ hy)
    show dv (d4 x ++ r16 a) = _
    rw [dv_app, d4_val (h x List.mem_cons_self), h1, v64]
    simp [d4]
theorem r16_len (a : List Nat) : (r16 a).length = 4 * a.length := by
  induction a with
  | nil => rfl
  | cons x a ih =>
    show (d4 x ++ r16 a).length = _
    rw [List.length_append, ih, List.length_cons]
    simp only [d4, List.length_cons, List.length_nil]
    omega
/-! The sum of two rows of digits. -/
def dcar (a b : List Nat) : Nat → Nat
  | 0 => 0
  | i + 1 => (a.getD i 0 + b.getD i 0 + dcar a b i) / 65536
def ddig (a b : List Nat) (i : Nat) : Nat := (a.getD i 0 + b.getD i 0 + dcar a b i) % 65536
def drow (a b : List Nat) (i : Nat) : List Nat := (List.range i).map (ddig a b)
theorem dig_getD {a : List Nat} (h : Dig a) (i : Nat) : a.getD i 0 < 65536 := by
  rw [List.getD]
  rcases hq : a[i]? with _ | x
  · decide
  · exact h x (List.mem_of_getElem? hq)
theorem dcar_le {a b : List Nat} (ha : Dig a) (hb : Dig b) : ∀ i, dcar a b i ≤ 1
  | 0 => Nat.zero_le _
  | i + 1 => by
    have h1 := dig_getD ha i
    have h2 := dig_getD hb i
    have h3 := dcar_le ha hb i
    rw [dcar]
    omega
theorem dcar_end {a b : List Nat} (ha : Dig a) (hb : Dig b) {i : Nat} (h1 : a.length ≤ i) (h2 : b.length ≤ i) : dcar a b (i + 1) = 0 := by
  have h3 := dcar_le ha hb i
  rw [dcar, List.getD, List.getD, List.getElem?_eq_none h1, List.getElem?_eq_none h2]
  simp only [Option.getD_none]
  omega
theorem drow_succ (a b : List Nat) (i : Nat) : drow a b (i + 1) = drow a b i ++ [ddig a b i] := by simp [drow, List.range_succ]
theorem drow_dig (a b : List Nat) (i : Nat) : Dig (drow a b i) := fun d hd => by
  obtain ⟨t, _, rfl⟩ := List.mem_map.1 hd
  exact Nat.mod_lt _ (by decide)
@[simp] theorem drow_len (a b : List Nat) (i : Nat) : (drow a b i).length = i := by simp [drow]
theorem dv_take_succ (a : List Nat) (i : Nat) : dv (a.take (i + 1)) = dv (a.take i) + 65536 ^ i * a.getD i 0 := by
  rw [List.take_add_one, dv_app, List.getD]
  rcases Nat.lt_or_ge i a.length with h | h
  · rw [List.getElem?_eq_getElem h, List.length_take, Nat.min_eq_left (by omega)]
    simp [dv]
  · rw [List.getElem?_eq_none h]
    simp [dv]
theorem drow_val (a b : List Nat) : ∀ i, dv (drow a b i) + 65536 ^ i * dcar a b i = dv (a.take i) + dv (b.take i)
  | 0 => by simp [drow, dv, dcar]
  | i + 1 => by
    have ih := drow_val a b i
    have he : ddig a b i + 65536 * dcar a b (i + 1) = a.getD i 0 + b.getD i 0 + dcar a b i := Nat.mod_add_div _ _
    rw [drow_succ, dv_app, drow_len, dv_take_succ, dv_take_succ, Nat.pow_succ, dv, dv]
    generalize 65536 ^ i = p at *
    generalize a.getD i 0 = x at *
    generalize b.getD i 0 = y at *
    generalize ddig a b i = z at *
    generalize dcar a b (i + 1) = c at *
    generalize dcar a b i = c0 at *
    have h1 : p * (z + 65536 * c) = p * (x + y + c0) := by rw [he]
    rw [Nat.mul_add, Nat.mul_add, Nat.mul_add] at h1
    rw [Nat.mul_assoc, Nat.mul_zero, Nat.add_zero]
    omega
theorem drow_end {a b : List Nat} {i : Nat} (h1 : a.length ≤ i) (h2 : b.length ≤ i) (h3 : dcar a b i = 0) : dv (drow a b i) = dv a + dv b := by
  have h := drow_val a b i
  rw [h3, List.take_of_length_le h1, List.take_of_length_le h2] at h
  omega
/-! The limbs of a row of digits. -/
def og (l : List Nat) (i q : Nat) : Nat := dv ((l.take (4 * q + 4)).drop (max i (4 * q)))
theorem og_same {l : List Nat} {i q : Nat} (h : i / 4 ≠ q) : og l i q = og l (i + 1) q := by
  unfold og
  rcases Nat.lt_or_ge i (4 * q) with h1 | h1
  · rw [Nat.max_eq_right (by omega), Nat.max_eq_right (by omega)]
  · rw [List.drop_eq_nil_of_le (by rw [List.length_take]; omega), List.drop_eq_nil_of_le (by rw [List.length_take]; omega)]
theorem og_step {l : List Nat} {i x : Nat} (h : l[i]? = some x) : og l i (i / 4) = x + 65536 * og l (i + 1) (i / 4) := by
  unfold og
  have hi := (List.getElem?_eq_some_iff.1 h).1
  have hx := (List.getElem?_eq_some_iff.1 h).2
  rw [Nat.max_eq_left (by omega), Nat.max_eq_left (by omega)]
  have h1 : i < (l.take (4 * (i / 4) + 4)).length := by rw [List.length_take]; omega
  rw [List.drop_eq_getElem_cons h1, dv, List.getElem_take, hx]
theorem og_lt {l : List Nat} (hd : Dig l) {i : Nat} : og l (i + 1) (i / 4) < 281474976710656 := by
  unfold og
  have h1 := dv_lt (l := (l.take (4 * (i / 4) + 4)).drop (max (i + 1) (4 * (i / 4)))) fun d hx => hd d (List.mem_of_mem_take (List.mem_of_mem_drop hx))
  have h2 : 65536 ^ ((l.take (4 * (i / 4) + 4)).drop (max (i + 1) (4 * (i / 4)))).length ≤ 65536 ^ 3 := Nat.pow_le_pow_right (by decide) (by rw [List.length_drop, List.length_take]; omega)
  have h3 : (65536 : Nat) ^ 3 = 281474976710656 := by decide
  omega
def ogs (l : List Nat) (i : Nat) : List Nat := [og l i 0, og l i 1, og l i 2, og l i 3]
theorem ogs_end {l : List Nat} {i : Nat} (h : l.length ≤ i) : ogs l i = z4 := by
  have : ∀ q, og l i q = 0 := fun q => by
    unfold og
    rw [List.drop_eq_nil_of_le (by rw [List.length_take]; omega)]
    rfl
  simp [ogs, this]
theorem og_bound {l : List Nat} (hd : Dig l) (i q : Nat) : og l i q < 18446744073709551616 := by
  unfold og
  have h1 := dv_lt (l := (l.take (4 * q + 4)).drop (max i (4 * q))) fun d hx => hd d (List.mem_of_mem_take (List.mem_of_mem_drop hx))
  have h2 : 65536 ^ ((l.take (4 * q + 4)).drop (max i (4 * q))).length ≤ 65536 ^ 4 := Nat.pow_le_pow_right (by decide) (by rw [List.length_drop, List.length_take]; omega)
  have h3 : (65536 : Nat) ^ 4 = 18446744073709551616 := by decide
  omega
theorem ogs_ok {l : List Nat} (hd : Dig l) (i : Nat) : Int4 (ogs l i) := int4mk rfl fun x hx => by
  simp only [ogs, List.mem_cons, List.not_mem_nil, or_false] at hx
  rcases hx with rfl | rfl | rfl | rfl <;> exact og_bound hd _ _
theorem ogs_set {l : List Nat} {i x : Nat} (h : l[i]? = some x) (h16 : i < 16) : (ogs l (i + 1)).set (i / 4) ((ogs l (i + 1)).getD (i / 4) 0 * 65536 + x) = ogs l i := by
  have hs := og_step h
  have hq : i / 4 = 0 ∨ i / 4 = 1 ∨ i / 4 = 2 ∨ i / 4 = 3 := by omega
  rcases hq with e | e | e | e <;> rw [e] at hs ⊢ <;> simp only [ogs, List.set_cons_zero, List.set_cons_succ, List.getD_cons_zero, List.getD_cons_succ]
  · rw [hs, show og l (i + 1) 0 * 65536 + x = x + 65536 * og l (i + 1) 0 by omega, og_same (l := l) (i := i) (q := 1) (by omega), og_same (l := l) (i := i) (q := 2) (by omega), og_same (l := l) (i := i) (q := 3) (by omega)]
  · rw [hs, show og l (i + 1) 1 * 65536 + x = x + 65536 * og l (i + 1) 1 by omega, og_same (l := l) (i := i) (q := 0) (by omega), og_same (l := l) (i := i) (q := 2) (by omega), og_same (l := l) (i := i) (q := 3) (by omega)]
  · rw [hs, show og l (i + 1) 2 * 65536 + x = x + 65536 * og l (i + 1) 2 by omega, og_same (l := l) (i := i) (q := 0) (by omega), og_same (l := l) (i := i) (q := 1) (by omega), og_same (l := l) (i := i) (q := 3) (by omega)]
  · rw [hs, show og l (i + 1) 3 * 65536 + x = x + 65536 * og l (i + 1) 3 by omega, og_same (l := l) (i := i) (q := 0) (by omega), og_same (l := l) (i := i) (q := 1) (by omega), og_same (l := l) (i := i) (q := 2) (by omega)]
theorem ogs_get {l : List Nat} (hd : Dig l) {i : Nat} (h16 : i < 16) : (ogs l (i + 1)).getD (i / 4) 0 < 281474976710656 := by
  have hs := og_lt hd (i := i)
  have hq : i / 4 = 0 ∨ i / 4 = 1 ∨ i / 4 = 2 ∨ i / 4 = 3 := by omega
  rcases hq with e | e | e | e <;> rw [e] at hs ⊢ <;> simpa only [ogs, List.getD_cons_zero, List.getD_cons_succ] using hs
theorem dv_four (l : List Nat) (h : l.length ≤ 16) : dv l = v64 (ogs l 0) := by
  have cut : ∀ m : List Nat, dv m = dv (m.take 4) + 18446744073709551616 * dv (m.drop 4) := fun m => by
    rw [dv_take m 4]
    rcases Nat.lt_or_ge m.length 4 with h1 | h1
    · rw [List.drop_eq_nil_of_le (by omega), dv, Nat.mul_zero, Nat.mul_zero]
    · rw [List.length_take, Nat.min_eq_left h1]
  have hz : dv (((l.drop 4).drop 4).drop 4) = dv ((((l.drop 4).drop 4).drop 4).take 4) := by
    rw [List.take_of_length_le (by simp only [List.length_drop]; omega)]
  rw [cut l, cut (l.drop 4), cut ((l.drop 4).drop 4), hz]
  simp [ogs, og, v64, List.drop_take, List.drop_drop]
theorem ogs_lm4 {l : List Nat} (hd : Dig l) (h : l.length ≤ 16) : lm4 (dv l) = ogs l 0 := by rw [dv_four l h, lm4_v (ogs_ok hd 0)]
end Go.Sx
