/-
  Plain words: numbers as bytes, the highest first.
-/
import Derived.Test.YtchmjpdkonfifaaDoorSxg
import Derived.Laws.BitsAllLaws
set_option linter.unusedVariables false
set_option linter.unusedSimpArgs false
namespace Go.Sx

/-- The lowest n bytes of x, the highest first. -/
def be : Nat → Nat → List UInt8
  | 0, _ => []
  | n + 1, x => UInt8.ofNat (x / 2 ^ (8 * n)) :: be n x
@[simp] theorem be_length (n x : Nat) : (be n x).length = n := by
  induction n with
  | zero => rfl
  | succ n ih => simp [be, ih]
/-- A row that is filled from its begin. -/
def fillTo {α : Type} (n i : Nat) (f : Nat → α) (z : α) : List α := (List.range n).map fun t => if t < i then f t else z
@[simp] theorem fillTo_length {α : Type} (n i : Nat) (f : Nat → α) (z : α) : (fillTo n i f z).length = n := by simp [fillTo]
theorem fillTo_zero {α : Type} (n : Nat) (f : Nat → α) (z : α) : fillTo n 0 f z = List.replicate n z := by
  apply List.ext_getElem
  · simp
  · intro i h1 h2; simp [fillTo]
theorem fillTo_full {α : Type} (n i : Nat) (h : n ≤ i) (f : Nat → α) (z : α) : fillTo n i f z = (List.range n).map f := by
  apply List.ext_getElem
  · simp
  · intro j h1 h2
    simp at h1
    simp [fillTo]; omega
theorem fillTo_set {α : Type} (n i : Nat) (f : Nat → α) (z : α) : (fillTo n i f z).set i (f i) = fillTo n (i + 1) f z := by
  apply List.ext_getElem
  · simp
  · intro j h1 h2
    simp at h1
    rw [List.getElem_set]
    by_cases e : i = j
    · subst e; simp [fillTo]
    · simp only [if_neg e]
      simp only [fillTo, List.getElem_map, List.getElem_range]
      have : (j < i) ↔ (j < i + 1) := by omega
      simp [this]
theorem map_set {α β : Type} (f : α → β) (l : List α) (i : Nat) (a : α) : (l.set i a).map f = (l.map f).set i (f a) := List.map_set
theorem bytesV_set (l : List UInt8) (i : Nat) (b : UInt8) : (bytesV l).set i (.int .u8 (b.toNat : Int)) = bytesV (l.set i b) := by simp [bytesV, byteV, List.map_set]

/-- A number of 256 bits: four limbs, the lowest first. -/
def intV (a : List Nat) : List Value := a.map fun (x : Nat) => .int .u64 (x : Int)
@[simp] theorem intV_length (a : List Nat) : (intV a).length = a.length := by simp [intV]
theorem intV_get {a : List Nat} {i : Nat} (h : i < a.length) : (intV a)[i]? = some (.int .u64 ((a.getD i 0 : Nat) : Int)) := by simp [intV, h]
theorem intV_one (a : List Nat) : ∀ u ∈ intV a, u.oneCell' = true := by
  intro u hu
  obtain ⟨b, _, rfl⟩ := List.mem_map.1 hu
  rfl
/-- It has four limbs of 64 bits. -/
def Int4 (a : List Nat) : Prop := a.length = 4 ∧ ∀ i, a.getD i 0 < 18446744073709551616
/-- Its bytes, the highest first. -/
def intB (a : List Nat) : List UInt8 := (List.range 32).map fun i => UInt8.ofNat (a.getD ((31 - i) / 8) 0 / 2 ^ (8 * ((31 - i) % 8)))
@[simp] theorem intB_length (a : List Nat) : (intB a).length = 32 := by simp [intB]
theorem splice_all (l vs : List Value) (h : l.length = vs.length) : splice l 0 vs = vs := by simp [splice, h]
/-- A part that comes in: where it lies, its capacity, its bytes. -/
structure SV where
  A : Option Addr
  c : Nat
  l : List UInt8
abbrev svV (p : SV) : Value := .slice p.A p.l.length p.c
/-- A slice of slices of bytes that can be read. -/
def RdP (w : World) (A : Option Addr) (ps : List SV) : Prop := Rd w A (ps.map svV) ∧ ∀ p ∈ ps, Rd w p.A (bytesV p.l)
theorem RdP.keep {w w' : World} {A : Option Addr} {ps : List SV} (h : RdP w A ps) (k : Keep nof w w') : RdP w' A ps := ⟨h.1.keep0 k, fun p hp => (h.2 p hp).keep0 k⟩
/-- A tag and parts as bytes. -/
def txt (tag : Nat) (ps : List (List UInt8)) : List UInt8 := be 1 tag ++ ps.flatMap fun p => be 4 p.length ++ p
theorem txt_snoc (tag : Nat) (ps : List (List UInt8)) (p : List UInt8) : txt tag (ps ++ [p]) = txt tag ps ++ be 4 p.length ++ p := by simp [txt]
theorem txt_length (tag : Nat) (ps : List (List UInt8)) : (txt tag ps).length = 1 + (ps.map fun p => p.length + 4).sum := by
  simp only [txt, List.length_append, be_length, List.length_flatMap]
  congr 2
  exact List.map_congr_left fun p _ => by omega
theorem sum_take_le (l : List Nat) (i : Nat) : (l.take i).sum ≤ l.sum := by
  conv => rhs; rw [← List.take_append_drop i l, List.sum_append]
  omega
theorem txt_take_le (tag : Nat) (ps : List (List UInt8)) (i : Nat) : (txt tag (ps.take i)).length ≤ (txt tag ps).length := by
  rw [txt_length, txt_length, List.map_take]
  have := sum_take_le (ps.map fun p => p.length + 4) i
  omega
theorem take_snoc {α : Type} {l : List α} {i : Nat} {a : α} (h : l[i]? = some a) : l.take (i + 1) = l.take i ++ [a] := by
  rw [List.take_add_one, h]; rfl
theorem bytesV_snoc (l : List UInt8) (b : UInt8) : bytesV l ++ [Value.int .u8 (b.toNat : Int)] = bytesV (l ++ [b]) := by simp [bytesV, byteV]
theorem len_snoc {α : Type} (l : List α) (b : α) : l.length + 1 = (l ++ [b]).length := by simp
theorem len_app {α : Type} (l m : List α) : l.length + m.length = (l ++ m).length := by simp
/-! ### Tags and parts are told by their text -/
theorem ofNat_inj {a b : Nat} (ha : a < 256) (hb : b < 256) (h : UInt8.ofNat a = UInt8.ofNat b) : a = b := by
  have := congrArg UInt8.toNat h
  simp at this
  omega
/-- The number that bytes are, the highest first. -/
def beVal (l : List UInt8) : Nat := l.foldl (fun x b => x * 256 + b.toNat) 0
theorem beVal_foldl (l : List UInt8) (x : Nat) : l.foldl (fun x b => x * 256 + b.toNat) x = x * 256 ^ l.length + beVal l := by
  induction l generalizing x with
  | nil => simp [beVal]
  | cons b r ih =>
    simp only [List.foldl_cons, beVal, List.length_cons]
    rw [ih, ih (0 * 256 + b.toNat), Nat.pow_succ, Nat.add_mul, Nat.mul_assoc, Nat.mul_comm 256 (256 ^ r.length)]
    simp only [Nat.zero_mul, Nat.zero_add]
    omega
theorem beVal_be (n x : Nat) : beVal (be n x) = x % 256 ^ n := by
  induction n with
  | zero => simp [be, beVal, Nat.mod_one]
  | succ n ih =>
    show (be n x).foldl _ (0 * 256 + (UInt8.ofNat (x / 2 ^ (8 * n))).toNat) = _
    rw [beVal_foldl, ih, be_length]
    simp only [Nat.zero_mul, Nat.zero_add, UInt8.toNat_ofNat']
    have e : (2 : Nat) ^ (8 * n) = 256 ^ n := by rw [Nat.pow_mul]
    rw [e]
    have h1 := Nat.mod_mul (a := 256 ^ n) (b := 256) (x := x)
    show x / 256 ^ n % 256 * 256 ^ n + x % 256 ^ n = x % (256 ^ n * 256)
    rw [h1, Nat.mul_comm, Nat.add_comm]
theorem be_inj {n a b : Nat} (ha : a < 256 ^ n) (hb : b < 256 ^ n) (h : be n a = be n b) : a = b := by
  have := congrArg beVal h
  rw [beVal_be, beVal_be, Nat.mod_eq_of_lt ha, Nat.mod_eq_of_lt hb] at this
  exact this
theorem parts_inj : ∀ (L M : List (List UInt8)), (∀ p ∈ L, p.length < 4294967296) → (∀ p ∈ M, p.length < 4294967296) → L.flatMap (fun p => be 4 p.length ++ p) = M.flatMap (fun p => be 4 p.length ++ p) → L = M
  | [], [], _, _, _ => rfl
  | [], q :: M, _, _, h => by
    have := congrArg List.length h
    simp at this
    omega
  | p :: L, [], _, _, h => by
    have := congrArg List.length h
    simp at this
  | p :: L, q :: M, hL, hM, h => by
    simp only [List.flatMap_cons, List.append_assoc] at h
    have h1 := List.append_inj h (by simp)
    have h2 : p.length = q.length := be_inj (by have := hL p (by simp); omega) (by have := hM q (by simp); omega) h1.1
    have h3 := List.append_inj h1.2 h2
    rw [h3.1, parts_inj L M (fun r hr => hL r (by simp [hr])) (fun r hr => hM r (by simp [hr])) h3.2]
theorem txt_inj {a b : Nat} {L M : List (List UInt8)} (ha : a < 256) (hb : b < 256) (hL : ∀ p ∈ L, p.length < 4294967296) (hM : ∀ p ∈ M, p.length < 4294967296) (h : txt a L = txt b M) : a = b ∧ L = M := by
  have h1 := List.append_inj h (by simp)
  exact ⟨be_inj (by omega) (by omega) h1.1, parts_inj L M hL hM h1.2⟩
def Pre (a b : Nat) (L M : List (List UInt8)) (i : Nat) : Prop := a = b ∧ L.length = M.length ∧ ∀ j, j < i → L[j]? = M[j]?
theorem pre_succ {a b : Nat} {L M : List (List UInt8)} {i : Nat} {p q : List UInt8} (h : Pre a b L M i) (hp : L[i]? = some p) (hq : M[i]? = some q) : p = q ↔ Pre a b L M (i + 1) := by
  constructor
  · rintro rfl
    refine ⟨h.1, h.2.1, fun j hj => ?_⟩
    rcases Nat.lt_or_ge j i with hji | hji
    · exact h.2.2 j hji
    · obtain rfl : j = i := by omega
      rw [hp, hq]
  · intro h'
    have := h'.2.2 i (by omega)
    rw [hp, hq] at this
    exact Option.some.inj this
theorem pre_eq {a b : Nat} {L M : List (List UInt8)} (h : Pre a b L M L.length) : a = b ∧ L = M :=
  ⟨h.1, List.ext_getElem? fun j => by
    rcases Nat.lt_or_ge j L.length with hj | hj
    · exact h.2.2 j hj
    · rw [List.getElem?_eq_none hj, List.getElem?_eq_none (by have := h.2.1; omega)]⟩
theorem pre_of {a b : Nat} {L M : List (List UInt8)} (h : a = b ∧ L = M) (i : Nat) : Pre a b L M i := by
  obtain ⟨rfl, rfl⟩ := h
  exact ⟨rfl, rfl, fun _ _ => rfl⟩
/-! ### Numbers off bytes -/
theorem u64quo (a b : Nat) (ha : a < 18446744073709551616) : IntKind.u64.wrap ((a : Int).tdiv (b : Int)) = ((a / b : Nat) : Int) := by
  rw [← Int.ofNat_tdiv a b, u64w_lt]
  exact Nat.lt_of_le_of_lt (Nat.div_le_self a b) ha
theorem remN (a b : Nat) : (a : Int).tmod (b : Int) = ((a % b : Nat) : Int) := (Int.ofNat_tmod a b).symm
theorem or_add {a k b : Nat} (hb : b < 2 ^ k) : (a * 2 ^ k) ||| b = a * 2 ^ k + b := by
  rw [Nat.mul_comm, Nat.two_pow_add_eq_or_of_lt hb]
theorem ofNat_mod (n : Nat) : UInt8.ofNat (n % 256) = UInt8.ofNat n := by
  apply UInt8.toNat_inj.1
  simp
theorem beVal_snoc (l : List UInt8) (b : UInt8) : beVal (l ++ [b]) = beVal l * 256 + b.toNat := by simp [beVal]
theorem beVal_append (l m : List UInt8) : beVal (l ++ m) = beVal l * 256 ^ m.length + beVal m := by
  show (l ++ m).foldl _ 0 = _
  rw [List.foldl_append]
  exact beVal_foldl m _
theorem beVal_cons (b : UInt8) (l : List UInt8) : beVal (b :: l) = b.toNat * 256 ^ l.length + beVal l := by
  have := beVal_append [b] l
  simpa [beVal] using this
theorem beVal_lt (l : List UInt8) : beVal l < 256 ^ l.length := by
  induction l with
  | nil => simp [beVal]
  | cons b r ih =>
    rw [beVal_cons, List.length_cons, Nat.pow_succ]
    have hb := b.toNat_lt
    have : (b.toNat + 1) * 256 ^ r.length ≤ 256 * 256 ^ r.length := Nat.mul_le_mul_right _ (by omega)
    rw [Nat.add_mul] at this
    omega
theorem be_mod (n x : Nat) : be n (x % 256 ^ n) = be n x := by
  have key : ∀ n m, n ≤ m → be n (x % 256 ^ m) = be n x := by
    intro n
    induction n with
    | zero => intros; rfl
    | succ n ih =>
      intro m hm
      show UInt8.ofNat (x % 256 ^ m / 2 ^ (8 * n)) :: be n (x % 256 ^ m) = UInt8.ofNat (x / 2 ^ (8 * n)) :: be n x
      rw [ih m (by omega)]
      congr 1
      rw [← ofNat_mod, ← ofNat_mod (x / 2 ^ (8 * n))]
      congr 1
      have e : (2 : Nat) ^ (8 * n) = 256 ^ n := by rw [Nat.pow_mul]
      rw [e]
      obtain ⟨d, rfl⟩ : ∃ d, m = n + (d + 1) := ⟨m - n - 1, by omega⟩
      rw [Nat.pow_add, Nat.mod_mul_right_div_self, Nat.pow_succ, Nat.mul_comm (256 ^ d) 256, Nat.mod_mul_right_mod]
  exact key n n (Nat.le_refl n)
theorem be_beVal (l : List UInt8) : be l.length (beVal l) = l := by
  induction l with
  | nil => rfl
  | cons b r ih =>
    show UInt8.ofNat (beVal (b :: r) / 2 ^ (8 * r.length)) :: be r.length (beVal (b :: r)) = b :: r
    have e : (2 : Nat) ^ (8 * r.length) = 256 ^ r.length := by rw [Nat.pow_mul]
    have hl := beVal_lt r
    have hp : 0 < 256 ^ r.length := Nat.pow_pos (by omega)
    rw [e, beVal_cons, Nat.add_comm, Nat.add_mul_div_right _ _ hp, Nat.div_eq_of_lt hl, Nat.zero_add]
    rw [← be_mod, Nat.add_mul_mod_self_right, Nat.mod_eq_of_lt hl, ih]
    simp
theorem intB_be : ∀ (a : List Nat), a.length = 4 → intB a = be 8 (a.getD 3 0) ++ be 8 (a.getD 2 0) ++ be 8 (a.getD 1 0) ++ be 8 (a.getD 0 0)
  | [a, b, c, d], _ => rfl
/-- A number's limbs, of its 32 bytes. -/
def ofB (l : List UInt8) : List Nat := [beVal (l.drop 24), beVal ((l.drop 16).take 8), beVal ((l.drop 8).take 8), beVal (l.take 8)]
theorem ofB_len (l : List UInt8) : (ofB l).length = 4 := rfl
theorem ofB_ok {l : List UInt8} (h : l.length = 32) : Int4 (ofB l) := by
  refine ⟨rfl, fun i => ?_⟩
  have h0 := beVal_lt (l.drop 24)
  have h1 := beVal_lt ((l.drop 16).take 8)
  have h2 := beVal_lt ((l.drop 8).take 8)
  have h3 := beVal_lt (l.take 8)
  simp [h] at h0 h1 h2 h3
  match i with
  | 0 => simpa [ofB] using h0
  | 1 => simpa [ofB] using h1
  | 2 => simpa [ofB] using h2
  | 3 => simpa [ofB] using h3
  | _ + 4 => simp [ofB]
theorem intB_ofB {l : List UInt8} (h : l.length = 32) : intB (ofB l) = l := by
  rw [intB_be _ rfl]
  have h0 := be_beVal (l.drop 24)
  have h1 := be_beVal ((l.drop 16).take 8)
  have h2 := be_beVal ((l.drop 8).take 8)
  have h3 := be_beVal (l.take 8)
  simp [h] at h0 h1 h2 h3
  simp only [ofB, List.getD_cons_zero, List.getD_cons_succ, h0, h1, h2, h3]
  have e1 : l.drop 16 = (l.drop 16).take 8 ++ l.drop 24 := by
    have := List.take_append_drop 8 (l.drop 16)
    rw [List.drop_drop] at this
    exact this.symm
  have e2 : l.drop 8 = (l.drop 8).take 8 ++ l.drop 16 := by
    have := List.take_append_drop 8 (l.drop 8)
    rw [List.drop_drop] at this
    exact this.symm
  have e3 := List.take_append_drop 8 l
  rw [List.append_assoc, List.append_assoc, ← e1, ← e2, e3]
theorem four8 (A B C D : List UInt8) (hA : A.length = 8) (hB : B.length = 8) (hC : C.length = 8) (hD : D.length = 8) : ofB (A ++ B ++ C ++ D) = [beVal D, beVal C, beVal B, beVal A] := by
  have t8 : A.take 8 = A := by rw [← hA, List.take_length]
  have t8' : B.take 8 = B := by rw [← hB, List.take_length]
  have t8'' : C.take 8 = C := by rw [← hC, List.take_length]
  simp [ofB, List.drop_append, List.take_append, hA, hB, hC, hD, List.drop_eq_nil_of_le, t8, t8', t8'']
theorem len4 : ∀ {a : List Nat}, a.length = 4 → ∃ p q r s, a = [p, q, r, s]
  | [p, q, r, s], _ => ⟨p, q, r, s, rfl⟩
theorem ofB_intB {a : List Nat} (h : Int4 a) : ofB (intB a) = a := by
  obtain ⟨hl, hb⟩ := h
  rw [intB_be a hl]
  have hx : ∀ i, a.getD i 0 < 256 ^ 8 := fun i => by have := hb i; omega
  have key : ∀ i, beVal (be 8 (a.getD i 0)) = a.getD i 0 := fun i => by rw [beVal_be, Nat.mod_eq_of_lt (hx i)]
  obtain ⟨p, q, r, s, rfl⟩ := len4 hl
  have k0 := key 0
  have k1 := key 1
  have k2 := key 2
  have k3 := key 3
  simp only [List.getD_cons_zero, List.getD_cons_succ] at k0 k1 k2 k3 ⊢
  rw [four8 _ _ _ _ (be_length _ _) (be_length _ _) (be_length _ _) (be_length _ _), k0, k1, k2, k3]
/-- A reader's state: what is left, and the first error's number. -/
abbrev RS := List UInt8 × Int
def rFail (s : RS) (x : Int) : RS := if s.2 = 0 ∧ x ≠ 0 then ([], x) else s
def rTake (s : RS) (n : Nat) : List UInt8 × RS := if s.1.length < n then ([], rFail s 4) else (s.1.take n, (s.1.drop n, s.2))
def rsV (s : RS) : Value := .agg #[str s.1, .int .i64 s.2]
theorem shlN (a m : Nat) (hm : m ≤ 64) (h : a * 2 ^ m < 18446744073709551616) : IntKind.u64.wrap ((a : Int) * 2 ^ (min m IntKind.u64.bits)) = ((a * 2 ^ m : Nat) : Int) := by
  have e : min m IntKind.u64.bits = m := Nat.min_eq_left hm
  rw [e, ← u64w_lt (a * 2 ^ m) h]
  simp
theorem orN (a b : Nat) (ha : a < 18446744073709551616) (hb : b < 18446744073709551616) {c : Nat} (hc : a ||| b = c) : bits .or .u64 (a : Int) (b : Int) = ((c : Nat) : Int) := by rw [u64_or_nat a b ha hb, hc]
theorem ofB_eq {l : List UInt8} (h : l.length = 32) : [beVal ((l.take 32).drop 24), beVal ((l.take 24).drop 16), beVal ((l.take 16).drop 8), beVal (l.take 8)] = ofB l := by
  rw [ofB, List.take_of_length_le (by omega), List.drop_take, List.drop_take]
/-- A limb of which some bytes, the highest, are known. -/
def lim (x : List UInt8) : Nat := beVal x * 256 ^ (8 - x.length)
def chunk (l : List UInt8) (i j : Nat) : List UInt8 := ((l.take i).drop (24 - 8 * j)).take 8
theorem chunk_length {l : List UInt8} {i j : Nat} (hi : i ≤ l.length) : (chunk l i j).length = min 8 (i - (24 - 8 * j)) := by simp [chunk]; omega
theorem chunk_same {l : List UInt8} {i j : Nat} {b : UInt8} (hb : l[i]? = some b) (h : i < 24 - 8 * j ∨ 24 - 8 * j + 8 ≤ i) : chunk l (i + 1) j = chunk l i j := by
  obtain ⟨hl, _⟩ := List.getElem?_eq_some_iff.1 hb
  unfold chunk
  rw [take_snoc hb]
  rcases h with h | h
  · rw [List.drop_eq_nil_of_le (by simp; omega), List.drop_eq_nil_of_le (by simp; omega)]
  · rw [List.drop_append_of_le_length (by simp; omega), List.take_append_of_le_length (by simp; omega)]
theorem chunk_snoc {l : List UInt8} {i j : Nat} {b : UInt8} (hb : l[i]? = some b) (h1 : 24 - 8 * j ≤ i) (h2 : i < 24 - 8 * j + 8) : chunk l (i + 1) j = chunk l i j ++ [b] := by
  obtain ⟨hl, _⟩ := List.getElem?_eq_some_iff.1 hb
  unfold chunk
  have e1 : ((l.take i).drop (24 - 8 * j)).length = i - (24 - 8 * j) := by simp; omega
  have e2 : ((l.take i).drop (24 - 8 * j)).take 8 = (l.take i).drop (24 - 8 * j) := List.take_of_length_le (by rw [e1]; omega)
  have e3 : ((l.take i).drop (24 - 8 * j) ++ [b]).take 8 = (l.take i).drop (24 - 8 * j) ++ [b] := List.take_of_length_le (by rw [List.length_append, e1, List.length_singleton]; omega)
  rw [take_snoc hb, List.drop_append_of_le_length (by simp; omega), e3, e2]
theorem lim_snoc (x : List UInt8) (b : UInt8) (h : x.length < 8) : lim x ||| (b.toNat * 2 ^ (8 * (7 - x.length))) = lim (x ++ [b]) := by
  have e1 : 8 - x.length = (7 - x.length) + 1 := by omega
  have e2 : 8 - (x ++ [b]).length = 7 - x.length := by rw [List.length_append, List.length_singleton]; omega
  have e3 : (2 : Nat) ^ (8 * (7 - x.length)) = 256 ^ (7 - x.length) := by rw [Nat.pow_mul]
  have hb := b.toNat_lt
  have hlt : b.toNat * 256 ^ (7 - x.length) < 2 ^ (8 * (8 - x.length)) := by
    rw [Nat.pow_mul, e1, show (2 : Nat) ^ 8 = 256 from rfl, Nat.pow_succ, Nat.mul_comm]
    exact Nat.mul_lt_mul_of_pos_left (by omega) (Nat.pow_pos (by omega))
  have e4 : lim x = beVal x * 2 ^ (8 * (8 - x.length)) := by rw [lim, Nat.pow_mul]
  rw [e3, e4, or_add hlt, lim, e2, beVal_snoc, Nat.pow_mul, e1, show (2 : Nat) ^ 8 = 256 from rfl, Nat.pow_succ, Nat.add_mul, Nat.mul_assoc, Nat.mul_comm 256]
theorem lim_lt (x : List UInt8) (h : x.length ≤ 8) : lim x < 18446744073709551616 := by
  have h1 := beVal_lt x
  have h2 : beVal x * 256 ^ (8 - x.length) < 256 ^ x.length * 256 ^ (8 - x.length) := Nat.mul_lt_mul_of_pos_right h1 (Nat.pow_pos (by omega))
  rw [← Nat.pow_add, show x.length + (8 - x.length) = 8 by omega] at h2
  exact h2
theorem shl_lt (b : UInt8) (q : Nat) (h : q ≤ 7) : b.toNat * 2 ^ (8 * q) < 18446744073709551616 := by
  have hb := b.toNat_lt
  have h1 : (2 : Nat) ^ (8 * q) ≤ 2 ^ 56 := Nat.pow_le_pow_right (by omega) (by omega)
  calc b.toNat * 2 ^ (8 * q) ≤ 255 * 2 ^ 56 := Nat.mul_le_mul (by omega) h1
    _ < _ := by omega
/-- The limbs, when i bytes are read. -/
def limbs (l : List UInt8) (i : Nat) : List Nat := (List.range 4).map fun j => lim (chunk l i j)
theorem limbs_get (l : List UInt8) (i : Nat) {j : Nat} (h : j < 4) : (limbs l i).getD j 0 = lim (chunk l i j) := by simp [limbs, h]
theorem limbs_zero (l : List UInt8) : limbs l 0 = [0, 0, 0, 0] := by simp [limbs, List.range, List.range.loop, chunk, lim, beVal]
theorem limbs_full {l : List UInt8} (h : l.length = 32) : limbs l 32 = ofB l := by
  have e : l.take 32 = l := List.take_of_length_le (by omega)
  have k : ∀ x : List UInt8, x.length = 8 → lim x = beVal x := fun x hx => by simp [lim, hx]
  have e0 : (l.drop 24).take 8 = l.drop 24 := List.take_of_length_le (by simp; omega)
  simp only [limbs, List.range, List.range.loop, List.map_cons, List.map_nil, chunk, e, ofB]
  rw [k _ (by simp; omega), k _ (by simp; omega), k _ (by simp; omega), k _ (by simp; omega)]
  simp only [Nat.mul_zero, Nat.sub_zero, Nat.mul_one, e0, List.drop_zero, Nat.sub_self]
theorem limbs_step {l : List UInt8} (h : l.length = 32) {i : Nat} {b : UInt8} (hb : l[i]? = some b) :
    (limbs l i).set ((31 - i) / 8) (lim (chunk l i ((31 - i) / 8)) ||| (b.toNat * 2 ^ (8 * ((31 - i) % 8)))) = limbs l (i + 1) := by
  obtain ⟨hl, _⟩ := List.getElem?_eq_some_iff.1 hb
  have hc := chunk_length (l := l) (i := i) (j := (31 - i) / 8) (by omega)
  have e : (31 - i) % 8 = 7 - (chunk l i ((31 - i) / 8)).length := by rw [hc]; omega
  rw [e, lim_snoc _ _ (by rw [hc]; omega), ← chunk_snoc hb (by omega) (by omega)]
  apply List.ext_getElem
  · simp [limbs]
  · intro j h1 h2
    simp only [limbs, List.length_set, List.length_map, List.length_range] at h1 h2
    simp only [limbs, List.getElem_set, List.getElem_map, List.getElem_range]
    split
    · rename_i hj; rw [hj]
    · rename_i hj; rw [chunk_same hb (by omega)]
theorem intV_set (a : List Nat) (i x : Nat) : (intV a).set i (.int .u64 (x : Int)) = intV (a.set i x) := by simp [intV, List.map_set]
theorem rTake_len (s : RS) (n : Nat) : (rTake s n).1.length ≤ n := by
  unfold rTake
  split
  · simp
  · simp; omega
theorem rTake_len' (s : RS) (n : Nat) : (rTake s n).1 = [] ∨ (rTake s n).1.length = n := by
  unfold rTake
  split
  · simp
  · right; simp; omega
theorem beVal_lt_of {l : List UInt8} {n : Nat} (h : l.length ≤ n) : beVal l < 256 ^ n := Nat.lt_of_lt_of_le (beVal_lt l) (Nat.pow_le_pow_right (by omega) h)
/-- A sum's bytes, when they may be too few. -/
def hash32 (l : List UInt8) : List UInt8 := l ++ List.replicate (32 - l.length) 0
theorem hash32_len {l : List UInt8} (h : l.length ≤ 32) : (hash32 l).length = 32 := by simp [hash32]; omega
theorem splice_hash {l : List UInt8} (h : l.length ≤ 32) : splice (bytesV (List.replicate 32 0)) 0 (bytesV l) = bytesV (hash32 l) := by
  have e : (bytesV (List.replicate 32 0)).drop l.length = bytesV (List.replicate (32 - l.length) 0) := by
    rw [bytesV, ← List.map_drop, List.drop_replicate]
    rfl
  simp only [splice, List.take_zero, List.nil_append, Nat.zero_add, bytesV_length, e, hash32, bytesV_append]
end Go.Sx
