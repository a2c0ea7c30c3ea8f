/-
  Plain words: numbers as bytes, the highest first.
-/
import Derived.Test.YtpngjgcbdaogmaaSxe
set_option linter.unusedVariables false
namespace Go.Sx

/-- The lowest n bytes of x, the highest first. -/
def be : Nat → Nat → List UInt8
  | 0, _ => []
  | n + 1, x => UInt8.ofNat (x / 2 ^ (8 * n)) :: be n x
@[simp] theorem be_length (n x : Nat) : (be n x).length = n := by
  induction n with
  | zero => rfl
  | succ n ih => simp [be, ih]
/-- A row that is filled from its begin. -/
def fillTo {α : Type} (n i : Nat) (f : Nat → α) (z : α) : List α := (List.range n).map fun t => if t < i then f t else z
@[simp] theorem fillTo_length {α : Type} (n i : Nat) (f : Nat → α) (z : α) : (fillTo n i f z).length = n := by simp [fillTo]
theorem fillTo_zero {α : Type} (n : Nat) (f : Nat → α) (z : α) : fillTo n 0 f z = List.replicate n z := by
  apply List.ext_getElem
  · simp
  · intro i h1 h2; simp [fillTo]
theorem fillTo_full {α : Type} (n i : Nat) (h : n ≤ i) (f : Nat → α) (z : α) : fillTo n i f z = (List.range n).map f := by
  apply List.ext_getElem
  · simp
  · intro j h1 h2
    simp at h1
    simp [fillTo]; omega
theorem fillTo_set {α : Type} (n i : Nat) (f : Nat → α) (z : α) : (fillTo n i f z).set i (f i) = fillTo n (i + 1) f z := by
  apply List.ext_getElem
  · simp
  · intro j h1 h2
    simp at h1
    rw [List.getElem_set]
    by_cases e : i = j
    · subst e; simp [fillTo]
    · simp only [if_neg e]
      simp only [fillTo, List.getElem_map, List.getElem_range]
      have : (j < i) ↔ (j < i + 1) := by omega
      simp [this]
theorem map_set {α β : Type} (f : α → β) (l : List α) (i : Nat) (a : α) : (l.set i a).map f = (l.map f).set i (f a) := List.map_set
theorem bytesV_set (l : List UInt8) (i : Nat) (b : UInt8) : (bytesV l).set i (.int .u8 (b.toNat : Int)) = bytesV (l.set i b) := by simp [bytesV, byteV, List.map_set]

/-- A number of 256 bits: four limbs, the lowest first. -/
def intV (a : List Nat) : List Value := a.map fun (x : Nat) => .int .u64 (x : Int)
@[simp] theorem intV_length (a : List Nat) : (intV a).length = a.length := by simp [intV]
theorem intV_get {a : List Nat} {i : Nat} (h : i < a.length) : (intV a)[i]? = some (.int .u64 ((a.getD i 0 : Nat) : Int)) := by simp [intV, h]
theorem intV_one (a : List Nat) : ∀ u ∈ intV a, u.oneCell' = true := by
  intro u hu
  obtain ⟨b, _, rfl⟩ := List.mem_map.1 hu
  rfl
/-- It has four limbs of 64 bits. -/
def Int4 (a : List Nat) : Prop := a.length = 4 ∧ ∀ i, a.getD i 0 < 18446744073709551616
/-- Its bytes, the highest first. -/
def intB (a : List Nat) : List UInt8 := (List.range 32).map fun i => UInt8.ofNat (a.getD ((31 - i) / 8) 0 / 2 ^ (8 * ((31 - i) % 8)))
@[simp] theorem intB_length (a : List Nat) : (intB a).length = 32 := by simp [intB]
theorem splice_all (l vs : List Value) (h : l.length = vs.length) : splice l 0 vs = vs := by simp [splice, h]
/-- A part that comes in: where it lies, its capacity, its bytes. -/
structure SV where
  A : Option Addr
  c : Nat
  l : List UInt8
abbrev svV (p : SV) : Value := .slice p.A p.l.length p.c
/-- A slice of slices of bytes that can be read. -/
def RdP (w : World) (A : Option Addr) (ps : List SV) : Prop := Rd w A (ps.map svV) ∧ ∀ p ∈ ps, Rd w p.A (bytesV p.l)
theorem RdP.keep {w w' : World} {A : Option Addr} {ps : List SV} (h : RdP w A ps) (k : Keep nof w w') : RdP w' A ps := ⟨h.1.keep0 k, fun p hp => (h.2 p hp).keep0 k⟩
/-- A tag and parts as bytes. -/
def txt (tag : Nat) (ps : List (List UInt8)) : List UInt8 := be 1 tag ++ ps.flatMap fun p => be 4 p.length ++ p
theorem txt_snoc (tag : Nat) (ps : List (List UInt8)) (p : List UInt8) : txt tag (ps ++ [p]) = txt tag ps ++ be 4 p.length ++ p := by simp [txt]
theorem txt_length (tag : Nat) (ps : List (List UInt8)) : (txt tag ps).length = 1 + (ps.map fun p => p.length + 4).sum := by
  simp only [txt, List.length_append, be_length, List.length_flatMap]
  congr 2
  exact List.map_congr_left fun p _ => by omega
theorem sum_take_le (l : List Nat) (i : Nat) : (l.take i).sum ≤ l.sum := by
  conv => rhs; rw [← List.take_append_drop i l, List.sum_append]
  omega
theorem txt_take_le (tag : Nat) (ps : List (List UInt8)) (i : Nat) : (txt tag (ps.take i)).length ≤ (txt tag ps).length := by
  rw [txt_length, txt_length, List.map_take]
  have := sum_take_le (ps.map fun p => p.length + 4) i
  omega
theorem take_snoc {α : Type} {l : List α} {i : Nat} {a : α} (h : l[i]? = some a) : l.take (i + 1) = l.take i ++ [a] := by
  rw [List.take_add_one, h]; rfl
theorem bytesV_snoc (l : List UInt8) (b : UInt8) : bytesV l ++ [Value.int .u8 (b.toNat : Int)] = bytesV (l ++ [b]) := by simp [bytesV, byteV]
theorem len_snoc {α : Type} (l : List α) (b : α) : l.length + 1 = (l ++ [b]).length := by simp
theorem len_app {α : Type} (l m : List α) : l.length + m.length = (l ++ m).length := by simp
/-! ### Tags and parts are told by their text -/
theorem ofNat_inj {a b : Nat} (ha : a < 256) (hb : b < 256) (h : UInt8.ofNat a = UInt8.ofNat b) : a = b := by
  have := congrArg UInt8.toNat h
  simp at this
  omega
/-- The number that bytes are, the highest first. -/
def beVal (l : List UInt8) : Nat := l.foldl (fun x b => x * 256 + b.toNat) 0
theorem beVal_foldl (l : List UInt8) (x : Nat) : l.foldl (fun x b => x * 256 + b.toNat) x = x * 256 ^ l.length + beVal l := by
  induction l generalizing x with
  | nil => simp [beVal]
  | cons b r ih =>
    simp only [List.foldl_cons, beVal, List.length_cons]
    rw [ih, ih (0 * 256 + b.toNat), Nat.pow_succ, Nat.add_mul, Nat.mul_assoc, Nat.mul_comm 256 (256 ^ r.length)]
    simp only [Nat.zero_mul, Nat.zero_add]
    omega
theorem beVal_be (n x : Nat) : beVal (be n x) = x % 256 ^ n := by
  induction n with
  | zero => simp [be, beVal, Nat.mod_one]
  | succ n ih =>
    show (be n x).foldl _ (0 * 256 + (UInt8.ofNat (x / 2 ^ (8 * n))).toNat) = _
    rw [beVal_foldl, ih, be_length]
    simp only [Nat.zero_mul, Nat.zero_add, UInt8.toNat_ofNat']
    have e : (2 : Nat) ^ (8 * n) = 256 ^ n := by rw [Nat.pow_mul]
    rw [e]
    have h1 := Nat.mod_mul (a := 256 ^ n) (b := 256) (x := x)
    show x / 256 ^ n % 256 * 256 ^ n + x % 256 ^ n = x % (256 ^ n * 256)
    rw [h1, Nat.mul_comm, Nat.add_comm]
theorem be_inj {n a b : Nat} (ha : a < 256 ^ n) (hb : b < 256 ^ n) (h : be n a = be n b) : a = b := by
  have := congrArg beVal h
  rw [beVal_be, beVal_be, Nat.mod_eq_of_lt ha, Nat.mod_eq_of_lt hb] at this
  exact this
theorem parts_inj : ∀ (L M : List (List UInt8)), (∀ p ∈ L, p.length < 4294967296) → (∀ p ∈ M, p.length < 4294967296) → L.flatMap (fun p => be 4 p.length ++ p) = M.flatMap (fun p => be 4 p.length ++ p) → L = M
  | [], [], _, _, _ => rfl
  | [], q :: M, _, _, h => by
    have := congrArg List.length h
    simp at this
    omega
  | p :: L, [], _, _, h => by
    have := congrArg List.length h
    simp at this
  | p :: L, q :: M, hL, hM, h => by
    simp only [List.flatMap_cons, List.append_assoc] at h
    have h1 := List.append_inj h (by simp)
    have h2 : p.length = q.length := be_inj (by have := hL p (by simp); omega) (by have := hM q (by simp); omega) h1.1
    have h3 := List.append_inj h1.2 h2
    rw [h3.1, parts_inj L M (fun r hr => hL r (by simp [hr])) (fun r hr => hM r (by simp [hr])) h3.2]
theorem txt_inj {a b : Nat} {L M : List (List UInt8)} (ha : a < 256) (hb : b < 256) (hL : ∀ p ∈ L, p.length < 4294967296) (hM : ∀ p ∈ M, p.length < 4294967296) (h : txt a L = txt b M) : a = b ∧ L = M := by
  have h1 := List.append_inj h (by simp)
  exact ⟨be_inj (by omega) (by omega) h1.1, parts_inj L M hL hM h1.2⟩
def Pre (a b : Nat) (L M : List (List UInt8)) (i : Nat) : Prop := a = b ∧ L.length = M.length ∧ ∀ j, j < i → L[j]? = M[j]?
theorem pre_succ {a b : Nat} {L M : List (List UInt8)} {i : Nat} {p q : List UInt8} (h : Pre a b L M i) (hp : L[i]? = some p) (hq : M[i]? = some q) : p = q ↔ Pre a b L M (i + 1) := by
  constructor
  · rintro rfl
    refine ⟨h.1, h.2.1, fun j hj => ?_⟩
    rcases Nat.lt_or_ge j i with hji | hji
    · exact h.2.2 j hji
    · obtain rfl : j = i := by omega
      rw [hp, hq]
  · intro h'
    have := h'.2.2 i (by omega)
    rw [hp, hq] at this
    exact Option.some.inj this
theorem pre_eq {a b : Nat} {L M : List (List UInt8)} (h : Pre a b L M L.length) : a = b ∧ L = M :=
  ⟨h.1, List.ext_getElem? fun j => by
    rcases Nat.lt_or_ge j L.length with hj | hj
    · exact h.2.2 j hj
    · rw [List.getElem?_eq_none hj, List.getElem?_eq_none (by have := h.2.1; omega)]⟩
theorem pre_of {a b : Nat} {L M : List (List UInt8)} (h : a = b ∧ L = M) (i : Nat) : Pre a b L M i := by
  obtain ⟨rfl, rfl⟩ := h
  exact ⟨rfl, rfl, fun _ _ => rfl⟩
end Go.Sx
