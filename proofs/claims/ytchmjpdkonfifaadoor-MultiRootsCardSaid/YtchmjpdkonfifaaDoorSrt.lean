/- Rows of numbers that are sorted in place: what is the same behind a swap, and what is in order. My own text. -/
import Derived.Test.YtchmjpdkonfifaaDoorSxg
set_option linter.unusedVariables false
set_option linter.unusedSimpArgs false
namespace Go.Sx
open Go.RowKit

def u64V (l : List Nat) : List Value := l.map fun (x : Nat) => .int .u64 (x : Int)
@[simp] theorem u64V_length (l : List Nat) : (u64V l).length = l.length := by simp [u64V]
theorem u64V_one (l : List Nat) : ∀ u ∈ u64V l, u.oneCell' = true := by
  intro u hu
  obtain ⟨x, _, rfl⟩ := List.mem_map.1 hu
  rfl
theorem u64V_append (l m : List Nat) : u64V (l ++ m) = u64V l ++ u64V m := by simp [u64V]
/-- The number at a place. -/
def gv (xs : List Nat) (k : Nat) : Nat := xs.getD k 0
theorem gv_get {xs : List Nat} {k : Nat} (h : k < xs.length) : xs[k]? = some (gv xs k) := by simp [gv, h]
theorem gv_mem {xs : List Nat} {k : Nat} (h : k < xs.length) : gv xs k ∈ xs := List.mem_of_getElem? (gv_get h)
theorem u64V_get {xs : List Nat} {k : Nat} (h : k < xs.length) : (u64V xs)[k]? = some (.int .u64 (gv xs k : Int)) := by simp [u64V, gv_get h]
theorem gv_set {xs : List Nat} {i : Nat} (v k : Nat) (h : i < xs.length) : gv (xs.set i v) k = if k = i then v else gv xs k := by
  unfold gv
  rw [List.getD_eq_getElem?_getD, List.getD_eq_getElem?_getD, List.getElem?_set]
  by_cases e : i = k
  · subst e; simp [h]
  · rw [if_neg e, if_neg (fun h => e h.symm)]
def swp (xs : List Nat) (i j : Nat) : List Nat := (xs.set i (gv xs j)).set j (gv xs i)
@[simp] theorem swp_len (xs : List Nat) (i j : Nat) : (swp xs i j).length = xs.length := by simp [swp]
theorem gv_swp {xs : List Nat} {i j : Nat} (k : Nat) (hi : i < xs.length) (hj : j < xs.length) : gv (swp xs i j) k = if k = j then gv xs i else if k = i then gv xs j else gv xs k := by
  unfold swp
  rw [gv_set _ _ (by simpa using hj), gv_set _ _ hi]
theorem swp_perm {xs : List Nat} {i j : Nat} (hi : i < xs.length) (hj : j < xs.length) : (swp xs i j).Perm xs := by
  have h := List.set_set_perm (as := xs) hi hj
  have ei : gv xs i = xs[i] := by simp [gv, hi]
  have ej : gv xs j = xs[j] := by simp [gv, hj]
  unfold swp
  rw [ei, ej]
  exact h
/-- The same numbers, in another order from a up to b. -/
structure Rel (a b : Nat) (xs ys : List Nat) : Prop where
  len : ys.length = xs.length
  out : ∀ k, k < a ∨ b ≤ k → gv ys k = gv xs k
  perm : ys.Perm xs
  all : ∀ P : Nat → Prop, (∀ k, a ≤ k → k < b → P (gv xs k)) → ∀ k, a ≤ k → k < b → P (gv ys k)
theorem Rel.refl (a b : Nat) (xs : List Nat) : Rel a b xs xs := ⟨rfl, fun _ _ => rfl, .refl _, fun _ h => h⟩
theorem Rel.trans {a b : Nat} {xs ys zs : List Nat} (h : Rel a b xs ys) (k : Rel a b ys zs) : Rel a b xs zs :=
  ⟨k.len.trans h.len, fun i hi => (k.out i hi).trans (h.out i hi), k.perm.trans h.perm, fun P hP => k.all P (h.all P hP)⟩
theorem Rel.mono {a b a' b' : Nat} {xs ys : List Nat} (h : Rel a b xs ys) (ha : a' ≤ a) (hb : b ≤ b') : Rel a' b' xs ys :=
  ⟨h.len, fun i hi => h.out i (by omega), h.perm, fun P hP k h1 h2 => by
    by_cases c : a ≤ k ∧ k < b
    · exact h.all P (fun i hi hj => hP i (by omega) (by omega)) k c.1 c.2
    · rw [h.out k (by omega)]; exact hP k h1 h2⟩
theorem Rel.swp {a b i j : Nat} {xs : List Nat} (hb : b ≤ xs.length) (h1 : a ≤ i) (h2 : i < b) (h3 : a ≤ j) (h4 : j < b) : Rel a b xs (swp xs i j) :=
  ⟨by simp, fun k hk => by rw [gv_swp k (by omega) (by omega), if_neg (by omega), if_neg (by omega)], swp_perm (by omega) (by omega), fun P hP k h5 h6 => by
    rw [gv_swp k (by omega) (by omega)]
    by_cases e : k = j
    · rw [if_pos e]; exact hP i h1 h2
    · rw [if_neg e]
      by_cases e : k = i
      · rw [if_pos e]; exact hP j h3 h4
      · rw [if_neg e]; exact hP k h5 h6⟩
/-- In order from a up to b. -/
def SrtR (a b : Nat) (xs : List Nat) : Prop := ∀ i j, a ≤ i → i ≤ j → j < b → gv xs i ≤ gv xs j
theorem SrtR.small {a b : Nat} (xs : List Nat) (h : b ≤ a + 1) : SrtR a b xs := fun i j h1 h2 h3 => by
  have : i = j := by omega
  rw [this]; exact Nat.le_refl _
theorem SrtR.step {a b : Nat} {xs : List Nat} (h : SrtR a b xs) (hb : a < b) (h1 : gv xs (b - 1) ≤ gv xs b) : SrtR a (b + 1) xs := fun i j hi hij hj => by
  by_cases e : j = b
  · by_cases e2 : i = b
    · rw [e, e2]; exact Nat.le_refl _
    · rw [e]; exact Nat.le_trans (h i (b - 1) hi (by omega) (by omega)) h1
  · exact h i j hi hij (by omega)
theorem SrtR.same {a b : Nat} {xs ys : List Nat} (h : SrtR a b xs) (e : ∀ k, a ≤ k → k < b → gv ys k = gv xs k) : SrtR a b ys := fun i j hi hij hj => by
  rw [e i hi (by omega), e j (by omega) hj]; exact h i j hi hij hj
/-- Two sorted parts with a number between. -/
theorem SrtR.join {a m b : Nat} {xs : List Nat} {p : Nat} (h1 : SrtR a m xs) (h2 : SrtR m b xs) (hl : ∀ k, a ≤ k → k < m → gv xs k ≤ p) (hr : ∀ k, m ≤ k → k < b → p ≤ gv xs k) : SrtR a b xs := fun i j hi hij hj => by
  by_cases c : j < m
  · exact h1 i j hi hij c
  · by_cases d : i < m
    · exact Nat.le_trans (hl i hi d) (hr j (by omega) hj)
    · exact h2 i j (by omega) hij hj

/-! ### Insertion: all but one are in order up to i -/
structure Ins (a i j : Nat) (xs : List Nat) : Prop where
  oth : ∀ p q, a ≤ p → p ≤ q → q ≤ i → p ≠ j → q ≠ j → gv xs p ≤ gv xs q
  beh : ∀ q, j < q → q ≤ i → gv xs j ≤ gv xs q
theorem Ins.start {a i : Nat} {xs : List Nat} (h : SrtR a i xs) : Ins a i i xs := ⟨fun p q hp hpq hq hpi hqi => h p q hp hpq (by omega), fun q h1 h2 => by omega⟩
theorem Ins.step {a i j : Nat} {xs : List Nat} (h : Ins a i j xs) (hi : i < xs.length) (hj : j ≤ i) (haj : a < j) (hlt : gv xs j < gv xs (j - 1)) : Ins a i (j - 1) (swp xs j (j - 1)) := by
  have g := fun k => gv_swp (xs := xs) (i := j) (j := j - 1) k (by omega) (by omega)
  constructor
  · intro p q hp hpq hq hpj hqj
    rw [g p, g q, if_neg hpj, if_neg hqj]
    by_cases e1 : p = j
    · rw [if_pos e1]
      by_cases e2 : q = j
      · rw [if_pos e2]; exact Nat.le_refl _
      · rw [if_neg e2]; exact h.oth (j - 1) q (by omega) (by omega) hq (by omega) e2
    · rw [if_neg e1]
      by_cases e2 : q = j
      · rw [if_pos e2]; exact h.oth p (j - 1) hp (by omega) (by omega) e1 (by omega)
      · rw [if_neg e2]; exact h.oth p q hp hpq hq e1 e2
  · intro q hq1 hq2
    rw [g (j - 1), g q, if_pos rfl, if_neg (by omega)]
    by_cases e2 : q = j
    · rw [if_pos e2]; omega
    · rw [if_neg e2]; exact h.beh q (by omega) hq2
theorem Ins.done {a i j : Nat} {xs : List Nat} (h : Ins a i j xs) (hj : j ≤ i) (haj : a ≤ j) (he : j = a ∨ gv xs (j - 1) ≤ gv xs j) : SrtR a (i + 1) xs := by
  intro p q hp hpq hq
  by_cases e1 : p = j
  · by_cases e2 : q = j
    · rw [e1, e2]; exact Nat.le_refl _
    · rw [e1]; exact h.beh q (by omega) (by omega)
  · by_cases e2 : q = j
    · rcases he with he | he
      · omega
      · rw [e2]
        by_cases e3 : p = j - 1
        · rw [e3]; exact he
        · exact Nat.le_trans (h.oth p (j - 1) hp (by omega) (by omega) e1 (by omega)) he
    · exact h.oth p q hp hpq (by omega) e1 e2

/-! ### A heap, from f on -/
def Hp (f lo hi : Nat) (xs : List Nat) : Prop := ∀ p c, lo ≤ p → (c = 2 * p + 1 ∨ c = 2 * p + 2) → c < hi → gv xs (f + c) ≤ gv xs (f + p)
structure Sift (f lo hi r : Nat) (xs : List Nat) : Prop where
  oth : ∀ p c, lo ≤ p → (c = 2 * p + 1 ∨ c = 2 * p + 2) → c < hi → p ≠ r → gv xs (f + c) ≤ gv xs (f + p)
  up : ∀ p c, lo ≤ p → (r = 2 * p + 1 ∨ r = 2 * p + 2) → (c = 2 * r + 1 ∨ c = 2 * r + 2) → c < hi → gv xs (f + c) ≤ gv xs (f + p)
theorem Sift.start {f lo hi : Nat} {xs : List Nat} (h : Hp f (lo + 1) hi xs) : Sift f lo hi lo xs := ⟨fun p c h1 h2 h3 h4 => h p c (by omega) h2 h3, fun p c h1 h2 h3 h4 => by omega⟩
theorem Sift.done {f lo hi r : Nat} {xs : List Nat} (h : Sift f lo hi r xs) (hr : ∀ c, (c = 2 * r + 1 ∨ c = 2 * r + 2) → c < hi → gv xs (f + c) ≤ gv xs (f + r)) : Hp f lo hi xs := fun p c h1 h2 h3 => by
  by_cases e : p = r
  · rw [e] at h2 ⊢; exact hr c h2 h3
  · exact h.oth p c h1 h2 h3 e
theorem Sift.step {f lo hi r m : Nat} {xs : List Nat} (h : Sift f lo hi r xs) (hlo : lo ≤ r) (hm : m = 2 * r + 1 ∨ m = 2 * r + 2) (hmh : m < hi) (hb : f + hi ≤ xs.length) (hmx : ∀ c, (c = 2 * r + 1 ∨ c = 2 * r + 2) → c < hi → gv xs (f + c) ≤ gv xs (f + m)) (hlt : gv xs (f + r) < gv xs (f + m)) :
    Sift f lo hi m (swp xs (f + r) (f + m)) := by
  have g := fun k => gv_swp (xs := xs) (i := f + r) (j := f + m) k (by omega) (by omega)
  constructor
  · intro p c hp hc hch hpm
    rw [g (f + c), g (f + p), if_neg (show f + p ≠ f + m by omega)]
    by_cases e1 : p = r
    · subst e1
      rw [if_pos rfl]
      by_cases e2 : c = m
      · rw [if_pos (by omega)]; omega
      · rw [if_neg (by omega), if_neg (by omega)]; exact hmx c hc hch
    · rw [if_neg (show f + p ≠ f + r by omega)]
      by_cases e2 : c = m
      · omega
      · rw [if_neg (by omega)]
        by_cases e3 : c = r
        · rw [if_pos (by omega)]; exact h.up p m hp (by omega) hm hmh
        · rw [if_neg (by omega)]; exact h.oth p c hp hc hch e1
  · intro p c hp hmp hc hch
    have e : p = r := by omega
    rw [g (f + c), g (f + p), if_neg (by omega), if_neg (by omega), if_neg (by omega), if_pos (by omega)]
    exact h.oth m c (by omega) hc hch (by omega)
theorem Hp.max {f hi : Nat} {xs : List Nat} (h : Hp f 0 hi xs) : ∀ c, c < hi → gv xs (f + c) ≤ gv xs (f + 0) := by
  intro c
  induction c using Nat.strongRecOn with
  | _ c ih =>
    intro hc
    by_cases e : c = 0
    · rw [e]; exact Nat.le_refl _
    · exact Nat.le_trans (h ((c - 1) / 2) c (Nat.zero_le _) (by omega) hc) (ih _ (by omega) (by omega))
/-- The last k are in order, and no less than what is ahead. -/
structure HeapS (a b k : Nat) (xs : List Nat) : Prop where
  hp : Hp a 0 k xs
  so : SrtR (a + k) b xs
  le : ∀ p q, p < k → k ≤ q → a + q < b → gv xs (a + p) ≤ gv xs (a + q)
theorem HeapS.start {a b : Nat} {xs : List Nat} (h : Hp a 0 (b - a) xs) (hab : a ≤ b) : HeapS a b (b - a) xs := ⟨h, .small _ (by omega), fun p q h1 h2 h3 => by omega⟩
theorem HeapS.pre {a b k : Nat} {xs : List Nat} (h : HeapS a b k xs) (hk : 0 < k) (hab : a + k ≤ b) (hb : b ≤ xs.length) : Hp a 1 (k - 1) (swp xs a (a + (k - 1))) := fun p c h1 h2 h3 => by
  have g := fun j => gv_swp (xs := xs) (i := a) (j := a + (k - 1)) j (by omega) (by omega)
  rw [g (a + c), g (a + p), if_neg (by omega), if_neg (by omega), if_neg (by omega), if_neg (by omega)]
  exact h.hp p c (by omega) h2 (by omega)
theorem HeapS.step {a b k : Nat} {xs zs : List Nat} (h : HeapS a b k xs) (hk : 0 < k) (hab : a + k ≤ b) (hb : b ≤ xs.length) (hr : Rel a (a + (k - 1)) (swp xs a (a + (k - 1))) zs) (hz : Hp a 0 (k - 1) zs) : HeapS a b (k - 1) zs := by
  have g := fun j => gv_swp (xs := xs) (i := a) (j := a + (k - 1)) j (by omega) (by omega)
  have hl : gv zs (a + (k - 1)) = gv xs a := by rw [hr.out _ (by omega), g, if_pos rfl]
  have ho : ∀ q, k ≤ q → gv zs (a + q) = gv xs (a + q) := fun q hq => by rw [hr.out _ (by omega), g, if_neg (by omega), if_neg (by omega)]
  have ha : ∀ q, k ≤ q → a + q < b → gv xs a ≤ gv xs (a + q) := fun q h1 h2 => h.le 0 q hk h1 h2
  refine ⟨hz, ?_, ?_⟩
  · intro i j hi hij hj
    obtain ⟨q, rfl⟩ : ∃ q, j = a + q := ⟨j - a, by omega⟩
    obtain ⟨p, rfl⟩ : ∃ p, i = a + p := ⟨i - a, by omega⟩
    by_cases e1 : p = k - 1
    · rw [e1, hl]
      by_cases e2 : q = k - 1
      · rw [e2, hl]; exact Nat.le_refl _
      · rw [ho q (by omega)]; exact ha q (by omega) hj
    · rw [ho p (by omega), ho q (by omega)]; exact h.so _ _ (by omega) (by omega) hj
  · intro p q hp hq hqb
    have h1 : gv zs (a + p) ≤ gv xs a := hr.all (fun v => v ≤ gv xs a) (fun j h1 h2 => by
      rw [g j, if_neg (by omega)]
      by_cases e : j = a
      · rw [if_pos e]
        exact h.hp.max (k - 1) (by omega)
      · rw [if_neg e]
        obtain ⟨c, rfl⟩ : ∃ c, j = a + c := ⟨j - a, by omega⟩
        exact h.hp.max c (by omega)) (a + p) (by omega) (by omega)
    by_cases e : q = k - 1
    · rw [e, hl]; exact h1
    · rw [ho q (by omega)]; exact Nat.le_trans h1 (ha q (by omega) hqb)
/-! ### Parting -/
structure Pt (a b i j : Nat) (ys : List Nat) : Prop where
  lo : a < i
  hi : j < b
  ij : i ≤ j + 1
  lt : ∀ k, a < k → k < i → gv ys k < gv ys a
  ge : ∀ k, j < k → k < b → gv ys a ≤ gv ys k
structure Prt (a b m : Nat) (ys : List Nat) : Prop where
  lo : a ≤ m
  hi : m < b
  le : ∀ k, a ≤ k → k < m → gv ys k ≤ gv ys m
  ge : ∀ k, m ≤ k → k < b → gv ys m ≤ gv ys k
theorem Pt.start {a b : Nat} (ys : List Nat) (h : a < b) : Pt a b (a + 1) (b - 1) ys := ⟨by omega, by omega, by omega, fun k h1 h2 => by omega, fun k h1 h2 => by omega⟩
theorem Pt.incI {a b i j : Nat} {ys : List Nat} (h : Pt a b i j ys) (hij : i ≤ j) (hl : gv ys i < gv ys a) : Pt a b (i + 1) j ys := ⟨by have := h.lo; omega, h.hi, by omega, fun k h1 h2 => by
  by_cases e : k = i
  · rw [e]; exact hl
  · exact h.lt k h1 (by omega), h.ge⟩
theorem Pt.decJ {a b i j : Nat} {ys : List Nat} (h : Pt a b i j ys) (hij : i ≤ j) (hl : gv ys a ≤ gv ys j) : Pt a b i (j - 1) ys := ⟨h.lo, by have := h.hi; omega, by have := h.lo; omega, h.lt, fun k h1 h2 => by
  by_cases e : k = j
  · rw [e]; exact hl
  · exact h.ge k (by omega) h2⟩
theorem Pt.swap {a b i j : Nat} {ys : List Nat} (h : Pt a b i j ys) (hb : b ≤ ys.length) (hij : i ≤ j) (hi : gv ys a ≤ gv ys i) (hj : gv ys j < gv ys a) : i < j ∧ Pt a b (i + 1) (j - 1) (swp ys i j) := by
  have h1 := h.lo
  have h2 := h.hi
  have hlt : i < j := by
    rcases Nat.lt_or_ge i j with h3 | h3
    · exact h3
    · have : i = j := by omega
      subst this; omega
  have g := fun k => gv_swp (xs := ys) (i := i) (j := j) k (by omega) (by omega)
  refine ⟨hlt, by omega, by omega, by omega, fun k h3 h4 => ?_, fun k h3 h4 => ?_⟩
  · rw [g k, g a, if_neg (show a ≠ j by omega), if_neg (show a ≠ i by omega), if_neg (by omega)]
    by_cases e : k = i
    · rw [if_pos e]; exact hj
    · rw [if_neg e]; exact h.lt k h3 (by omega)
  · rw [g k, g a, if_neg (show a ≠ j by omega), if_neg (show a ≠ i by omega)]
    by_cases e : k = j
    · rw [if_pos e]; exact hi
    · rw [if_neg e, if_neg (by omega)]; exact h.ge k (by omega) h4
theorem Pt.done {a b i j : Nat} {ys : List Nat} (h : Pt a b i j ys) (hb : b ≤ ys.length) (hij : ¬ i ≤ j) : Prt a b j (swp ys j a) := by
  have h1 := h.lo
  have h2 := h.hi
  have h3 := h.ij
  have g := fun k => gv_swp (xs := ys) (i := j) (j := a) k (by omega) (by omega)
  have gj : gv (swp ys j a) j = gv ys a := by
    rw [g j]
    by_cases e : j = a
    · rw [if_pos e, e]
    · rw [if_neg e, if_pos rfl]
  refine ⟨by omega, h2, fun k h4 h5 => ?_, fun k h4 h5 => ?_⟩
  · rw [gj, g k]
    by_cases e : k = a
    · rw [if_pos e]; exact Nat.le_of_lt (h.lt j (by omega) (by omega))
    · rw [if_neg e, if_neg (by omega)]; exact Nat.le_of_lt (h.lt k (by omega) (by omega))
  · rw [gj]
    by_cases e : k = j
    · rw [e, gj]; exact Nat.le_refl _
    · rw [g k, if_neg (by omega), if_neg e]; exact h.ge k (by omega) h5
structure Pe (a b i j v : Nat) (ys : List Nat) : Prop where
  lo : a < i
  hi : j < b
  ij : i ≤ j + 1
  eq : gv ys a = v
  le : ∀ k, a ≤ k → k < i → gv ys k ≤ v
  gt : ∀ k, j < k → k < b → v < gv ys k
theorem Pe.start {a b v : Nat} {ys : List Nat} (h : a < b) (e : gv ys a = v) : Pe a b (a + 1) (b - 1) v ys := ⟨by omega, by omega, by omega, e, fun k h1 h2 => by rw [show k = a by omega, e]; exact Nat.le_refl _, fun k h1 h2 => by omega⟩
theorem Pe.incI {a b i j v : Nat} {ys : List Nat} (h : Pe a b i j v ys) (hij : i ≤ j) (hl : gv ys i ≤ gv ys a) : Pe a b (i + 1) j v ys := ⟨by have := h.lo; omega, h.hi, by omega, h.eq, fun k h1 h2 => by
  by_cases e : k = i
  · rw [e, ← h.eq]; exact hl
  · exact h.le k h1 (by omega), h.gt⟩
theorem Pe.decJ {a b i j v : Nat} {ys : List Nat} (h : Pe a b i j v ys) (hij : i ≤ j) (hl : gv ys a < gv ys j) : Pe a b i (j - 1) v ys := ⟨h.lo, by have := h.hi; omega, by have := h.lo; omega, h.eq, h.le, fun k h1 h2 => by
  by_cases e : k = j
  · rw [e, ← h.eq]; exact hl
  · exact h.gt k (by omega) h2⟩
theorem Pe.swap {a b i j v : Nat} {ys : List Nat} (h : Pe a b i j v ys) (hb : b ≤ ys.length) (hij : i ≤ j) (hi : gv ys a < gv ys i) (hj : gv ys j ≤ gv ys a) : i < j ∧ Pe a b (i + 1) (j - 1) v (swp ys i j) := by
  have h1 := h.lo
  have h2 := h.hi
  have hlt : i < j := by
    rcases Nat.lt_or_ge i j with h3 | h3
    · exact h3
    · have : i = j := by omega
      subst this; omega
  have g := fun k => gv_swp (xs := ys) (i := i) (j := j) k (by omega) (by omega)
  refine ⟨hlt, by omega, by omega, by omega, ?_, fun k h3 h4 => ?_, fun k h3 h4 => ?_⟩
  · rw [g a, if_neg (by omega), if_neg (by omega)]; exact h.eq
  · rw [g k, if_neg (by omega)]
    by_cases e : k = i
    · rw [if_pos e, ← h.eq]; exact hj
    · rw [if_neg e]; exact h.le k h3 (by omega)
  · rw [g k]
    by_cases e : k = j
    · rw [if_pos e, ← h.eq]; exact hi
    · rw [if_neg e, if_neg (by omega)]; exact h.gt k (by omega) h4
/-! ### What is left to sort: from a up to b, within a0 up to b0 -/
def St (a0 b0 a b : Nat) (xs : List Nat) : Prop := ∀ i j, a0 ≤ i → i ≤ j → j < b0 → (i < a ∨ b ≤ j) → gv xs i ≤ gv xs j
/-- The number ahead is none greater. -/
def Pr (a b : Nat) (xs : List Nat) : Prop := 0 < a → ∀ k, a ≤ k → k < b → gv xs (a - 1) ≤ gv xs k
theorem St.init (a b : Nat) (xs : List Nat) : St a b a b xs := fun i j h1 h2 h3 h4 => by omega
theorem St.done {a0 b0 a b : Nat} {xs : List Nat} (h : St a0 b0 a b xs) (hs : SrtR a b xs) : SrtR a0 b0 xs := fun i j h1 h2 h3 => by
  by_cases c : i < a ∨ b ≤ j
  · exact h i j h1 h2 h3 c
  · exact hs i j (by omega) h2 (by omega)
theorem St.rel {a0 b0 a b : Nat} {xs ys : List Nat} (h : St a0 b0 a b xs) (hr : Rel a b xs ys) (ha : a0 ≤ a) (hb : b ≤ b0) : St a0 b0 a b ys := fun i j h1 h2 h3 h4 => by
  rcases h4 with h4 | h4
  · rw [hr.out i (.inl h4)]
    by_cases c : a ≤ j ∧ j < b
    · exact hr.all (fun v => gv xs i ≤ v) (fun k h5 h6 => h i k h1 (by omega) (by omega) (.inl h4)) j c.1 c.2
    · rw [hr.out j (by omega)]; exact h i j h1 h2 h3 (.inl h4)
  · rw [hr.out j (.inr h4)]
    by_cases c : a ≤ i ∧ i < b
    · exact hr.all (fun v => v ≤ gv xs j) (fun k h5 h6 => h k j (by omega) (by omega) h3 (.inr h4)) i c.1 c.2
    · rw [hr.out i (by omega)]; exact h i j h1 h2 h3 (.inr h4)
theorem Pr.rel {a b : Nat} {xs ys : List Nat} (h : Pr a b xs) (hr : Rel a b xs ys) : Pr a b ys := fun h0 k h1 h2 => by
  rw [hr.out (a - 1) (.inl (by omega))]
  exact hr.all (fun v => gv xs (a - 1) ≤ v) (fun k h3 h4 => h h0 k h3 h4) k h1 h2
theorem St.eqp {a0 b0 a b m v : Nat} {ys zs : List Nat} (h : St a0 b0 a b ys) (hr : Rel a b ys zs) (ha : a0 ≤ a) (hb : b ≤ b0) (hm : a < m) (hmb : m ≤ b) (hmin : ∀ k, a ≤ k → k < b → v ≤ gv ys k) (hle : ∀ k, a ≤ k → k < m → gv zs k ≤ v) (hgt : ∀ k, m ≤ k → k < b → v < gv zs k) :
    St a0 b0 m b zs ∧ Pr m b zs := by
  have hz := h.rel hr ha hb
  have hmn := hr.all (fun u => v ≤ u) hmin
  refine ⟨fun i j h1 h2 h3 h4 => ?_, fun _ k h1 h2 => Nat.le_of_lt (Nat.lt_of_le_of_lt (hle (m - 1) (by omega) (by omega)) (hgt k h1 h2))⟩
  rcases h4 with h4 | h4
  · by_cases c : i < a
    · exact hz i j h1 h2 h3 (.inl c)
    · by_cases d : b ≤ j
      · exact hz i j h1 h2 h3 (.inr d)
      · exact Nat.le_trans (hle i (by omega) h4) (hmn j (by omega) (by omega))
  · exact hz i j h1 h2 h3 (.inr h4)
theorem Pr.left {a b m : Nat} {zs : List Nat} (h : Pr a b zs) (hm : m < b) : Pr a m zs := fun h0 k h1 h2 => h h0 k h1 (by omega)
theorem Pr.right {a b m : Nat} {zs : List Nat} (h : Prt a b m zs) : Pr (m + 1) b zs := fun _ k h1 h2 => h.ge k (by omega) h2
theorem St.left {a0 b0 a b m : Nat} {zs ws : List Nat} (h : St a0 b0 a b zs) (hp : Prt a b m zs) (hr : Rel a m zs ws) (hs : SrtR a m ws) (ha : a0 ≤ a) (hb : b ≤ b0) : St a0 b0 (m + 1) b ws ∧ Pr (m + 1) b ws := by
  have hm1 := hp.lo
  have hm2 := hp.hi
  have hz := h.rel (hr.mono (Nat.le_refl _) (by omega)) ha hb
  have ho : ∀ k, m ≤ k → gv ws k = gv zs k := fun k hk => hr.out k (.inr hk)
  have hl : ∀ k, a ≤ k → k < m → gv ws k ≤ gv zs m := hr.all (fun v => v ≤ gv zs m) hp.le
  refine ⟨fun i j h1 h2 h3 h4 => ?_, fun _ k h1 h2 => by rw [ho k (by omega), Nat.add_sub_cancel, ho m (Nat.le_refl _)]; exact hp.ge k (by omega) h2⟩
  by_cases d : b ≤ j
  · exact hz i j h1 h2 h3 (.inr d)
  · by_cases c : i < a
    · exact hz i j h1 h2 h3 (.inl c)
    · by_cases e : j < m
      · exact hs i j (by omega) h2 e
      · rw [ho j (by omega)]
        by_cases f : i < m
        · exact Nat.le_trans (hl i (by omega) f) (hp.ge j (by omega) (by omega))
        · rw [ho i (by omega), show i = m by omega]; exact hp.ge j (by omega) (by omega)
theorem St.right {a0 b0 a b m : Nat} {zs ws : List Nat} (h : St a0 b0 a b zs) (hq : Pr a b zs) (hp : Prt a b m zs) (hr : Rel (m + 1) b zs ws) (hs : SrtR (m + 1) b ws) (ha : a0 ≤ a) (hb : b ≤ b0) : St a0 b0 a m ws ∧ Pr a m ws := by
  have hm1 := hp.lo
  have hm2 := hp.hi
  have hz := h.rel (hr.mono (by omega) (Nat.le_refl _)) ha hb
  have ho : ∀ k, k ≤ m → gv ws k = gv zs k := fun k hk => hr.out k (.inl (by omega))
  have hl : ∀ k, m + 1 ≤ k → k < b → gv zs m ≤ gv ws k := hr.all (fun v => gv zs m ≤ v) (fun k h1 h2 => hp.ge k (by omega) h2)
  refine ⟨fun i j h1 h2 h3 h4 => ?_, fun h0 k h1 h2 => by rw [ho k (by omega), ho (a - 1) (by omega)]; exact hq h0 k h1 (by omega)⟩
  by_cases d : b ≤ j
  · exact hz i j h1 h2 h3 (.inr d)
  · by_cases c : i < a
    · exact hz i j h1 h2 h3 (.inl c)
    · by_cases e : m < i
      · exact hs i j (by omega) h2 (by omega)
      · rw [ho i (by omega)]
        have hi : gv zs i ≤ gv zs m := by
          by_cases f : i = m
          · rw [f]; exact Nat.le_refl _
          · exact hp.le i (by omega) (by omega)
        by_cases f : j = m
        · rw [f, ho m (Nat.le_refl _)]; exact hi
        · exact Nat.le_trans hi (hl j (by omega) (by omega))
theorem band_le (z : Int) (y : Nat) (hy : y < 18446744073709551616) : ∃ o : Nat, bits .and .u64 z (y : Int) = (o : Int) ∧ o ≤ y := by
  refine ⟨(BitVec.ofInt 64 z &&& BitVec.ofInt 64 (y : Int)).toNat, ?_, ?_⟩
  · have h : (BitVec.ofInt 64 z &&& BitVec.ofInt 64 (y : Int)).toNat < 18446744073709551616 := BitVec.isLt _
    exact u64w_lt _ h
  · rw [BitVec.toNat_and]
    refine Nat.le_trans Nat.and_le_right ?_
    have e : (BitVec.ofInt 64 (y : Int)).toNat = y := by
      rw [show BitVec.ofInt 64 (y : Int) = BitVec.ofNat 64 y from by simp, BitVec.toNat_ofNat, Nat.mod_eq_of_lt hy]
    rw [e]
    exact Nat.le_refl _
def len8 (n : Nat) : Nat := if n = 0 then 0 else Nat.log2 n + 1
theorem len8_2 : ∀ n, n < 64 → 1 ≤ n → 2 ^ len8 n ≤ 2 * n ∧ len8 n ≤ 6 := by decide
theorem len8_s : ∀ n, n < 64 → IntKind.u64.wrap ((1 : Int) * 2 ^ (min (len8 n) IntKind.u64.bits)) = ((2 ^ len8 n : Nat) : Int) := by decide
theorem wrapN {z : Int} {k : Nat} (h : z = (k : Int)) (hk : k ≤ 9223372036854775807) : IntKind.i64.wrap z = (k : Int) := by rw [h]; exact i64w _ (by omega) (by omega)

theorem wrapI {z z' : Int} (h : z = z') (h1 : -9223372036854775808 ≤ z') (h2 : z' ≤ 9223372036854775807) : IntKind.i64.wrap z = z' := by rw [h]; exact i64w _ h1 h2

/-! ### In memory -/
section
variable {P : Program} {n : Nat} {env : Env} {w w0 : World} {F : Nat → Prop} {rs : List Res} {dst : Option Tmp} {ty : TypeId} {pos : String} {aft : Array Edge} {gd : Option (Nat × Bool)}
/-- Numbers, and what lies behind them in the same block. -/
def ub (g : Nat) (xs : List Nat) (tl : List Value) (e : TypeId) : Res := blk g (u64V xs ++ tl) e
theorem ub_rd {g : Nat} {xs : List Nat} {tl : List Value} {e : TypeId} {o k : Nat} (h : (ub g xs tl e).sat w) (ho : o = k) (hk : k < xs.length) : w.cell? ⟨g, o, none⟩ = some (.int .u64 (gv xs k : Int)) := by
  subst ho
  exact blk_cell (l := u64V xs ++ tl) h (by rw [List.getElem?_append_left (by simpa using hk)]; exact u64V_get hk)
theorem ub_old {w w1 : World} {F : Nat → Prop} {g : Nat} {xs : List Nat} {tl : List Value} {e : TypeId} (K : Keep F w w1) (h : (ub g xs tl e).sat w) (hg : ¬ F g) : (ub g xs tl e).sat w1 :=
  (K.block g (lt_of_heap h) hg).trans h
theorem ub_set {xs : List Nat} {tl : List Value} {k : Nat} (v : Nat) (hk : k < xs.length) : (u64V xs ++ tl).set k (.int .u64 (v : Int)) = u64V (xs.set k v) ++ tl := by
  rw [List.set_append_left _ _ (by simpa using hk)]
  simp [u64V, List.map_set]
theorem Ac.stU {t : TypeId} {x y : Operand} {i b o k v : Nat} {xs : List Nat} {tl : List Value} {e : TypeId} (M : Mem w0 w F rs) (ht : Ty P t 1 false) (hx : ev env x = some (.pointer (some ⟨b, o, none⟩))) (hy : ev env y = some (.int .u64 (v : Int)))
    (hi : rs[i]? = some (ub b xs tl e)) (ho : o = k) (hk : k < xs.length) :
    Ac P n env (Oper.mk dst (.store t x y) ty pos aft gd) w fun _ w' => Keep (· ∈ [b]) w w' ∧ Mem w0 w' F (rs.set i (ub b (xs.set k v) tl e)) := by
  subst ho
  refine (Ac.st M ht hx hy rfl hi (by simp; omega)).mono fun _ w' h => ?_
  rw [ub_set v hk] at h
  exact h
end
end Go.Sx
