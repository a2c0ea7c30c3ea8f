/- Rising rows of places: plain. My own text. -/
import Derived.Test.YtchmjpdkonfifaaDoorSrt
set_option linter.unusedVariables false
set_option linter.unusedSimpArgs false
namespace Go.Sx
open Go.RowKit
/-- Strictly rising. -/
def SI (l : List Nat) : Prop := ∀ i j, i < j → j < l.length → gv l i < gv l j
theorem gv_app {l m : List Nat} (k : Nat) : gv (l ++ m) k = if k < l.length then gv l k else gv m (k - l.length) := by
  unfold gv
  rw [List.getD_eq_getElem?_getD, List.getD_eq_getElem?_getD, List.getD_eq_getElem?_getD]
  by_cases h : k < l.length
  · rw [if_pos h, List.getElem?_append_left h]
  · rw [if_neg h, List.getElem?_append_right (by omega)]
theorem mem_gv {l : List Nat} {v : Nat} : v ∈ l ↔ ∃ k, k < l.length ∧ gv l k = v := by
  constructor
  · intro h
    obtain ⟨k, hk, rfl⟩ := List.getElem_of_mem h
    exact ⟨k, hk, by simp [gv, hk]⟩
  · rintro ⟨k, hk, rfl⟩
    exact gv_mem hk
theorem SI.snoc {l : List Nat} {x : Nat} (h : SI l) (hx : ∀ k, k < l.length → gv l k < x) : SI (l ++ [x]) := by
  intro i j hij hj
  rw [List.length_append, List.length_singleton] at hj
  rw [gv_app, gv_app, if_pos (by omega)]
  by_cases c : j < l.length
  · rw [if_pos c]; exact h i j hij c
  · rw [if_neg c, show j - l.length = 0 by omega]
    exact hx i (by omega)
/-- The first p of a sorted row, each once. -/
def ddp (ys : List Nat) : Nat → List Nat
  | 0 => []
  | p + 1 => if p = 0 ∨ gv ys p ≠ gv ys (p - 1) then ddp ys p ++ [gv ys p] else ddp ys p
theorem ddp_yes {ys : List Nat} {p : Nat} (h : p = 0 ∨ gv ys p ≠ gv ys (p - 1)) : ddp ys (p + 1) = ddp ys p ++ [gv ys p] := if_pos h
theorem ddp_no {ys : List Nat} {p : Nat} (h0 : 0 < p) (h : gv ys p = gv ys (p - 1)) : ddp ys (p + 1) = ddp ys p := if_neg (by omega)
theorem ddp_le (ys : List Nat) : ∀ p, (ddp ys p).length ≤ p
  | 0 => Nat.le_refl _
  | p + 1 => by
    have := ddp_le ys p
    by_cases h : p = 0 ∨ gv ys p ≠ gv ys (p - 1)
    · rw [ddp_yes h, List.length_append, List.length_singleton]; omega
    · rw [show ddp ys (p + 1) = ddp ys p from if_neg h]; omega
theorem ddp_ok {ys : List Nat} {n : Nat} (hs : SrtR 0 n ys) : ∀ p, p ≤ n → SI (ddp ys p) ∧ (∀ v, v ∈ ddp ys p ↔ ∃ k, k < p ∧ gv ys k = v) ∧ (0 < p → 0 < (ddp ys p).length) ∧ (∀ k, k < (ddp ys p).length → gv (ddp ys p) k ≤ gv ys (p - 1))
  | 0, _ => ⟨fun i j h1 h2 => by simp [ddp] at h2, fun v => by simp [ddp], fun h => by omega, fun k h => by simp [ddp] at h⟩
  | p + 1, hp => by
    obtain ⟨h1, h2, h3, h4⟩ := ddp_ok hs p (by omega)
    by_cases h : p = 0 ∨ gv ys p ≠ gv ys (p - 1)
    · rw [ddp_yes h]
      refine ⟨h1.snoc fun k hk => ?_, fun v => ?_, fun _ => by simp, fun k hk => ?_⟩
      · rcases Nat.eq_zero_or_pos p with e | e
        · subst e; simp [ddp] at hk
        · have := hs (p - 1) p (by omega) (by omega) (by omega)
          have := h4 k hk
          omega
      · rw [List.mem_append, h2 v, List.mem_singleton]
        constructor
        · rintro (⟨k, hk, rfl⟩ | rfl)
          · exact ⟨k, by omega, rfl⟩
          · exact ⟨p, by omega, rfl⟩
        · rintro ⟨k, hk, rfl⟩
          by_cases e : k = p
          · exact .inr (by rw [e])
          · exact .inl ⟨k, by omega, rfl⟩
      · rw [Nat.add_sub_cancel]
        rw [List.length_append, List.length_singleton] at hk
        rw [gv_app]
        by_cases c : k < (ddp ys p).length
        · rw [if_pos c]
          have h5 := h4 k c
          have h6 := hs (p - 1) p (by omega) (by omega) (by omega)
          omega
        · rw [if_neg c, show k - (ddp ys p).length = 0 by omega]
          exact Nat.le_refl _
    · have e0 : 0 < p := by omega
      have e1 : gv ys p = gv ys (p - 1) := by
        rcases Decidable.em (gv ys p = gv ys (p - 1)) with e | e
        · exact e
        · exact absurd (.inr e) h
      rw [ddp_no e0 e1]
      refine ⟨h1, fun v => ?_, fun _ => h3 e0, fun k hk => by rw [Nat.add_sub_cancel, e1]; exact h4 k hk⟩
      rw [h2 v]
      constructor
      · rintro ⟨k, hk, rfl⟩
        exact ⟨k, by omega, rfl⟩
      · rintro ⟨k, hk, rfl⟩
        by_cases e : k = p
        · exact ⟨p - 1, by omega, by rw [e, e1]⟩
        · exact ⟨k, by omega, rfl⟩
/-- What a row in the making holds. -/
structure Cmp (ys as : List Nat) (p : Nat) : Prop where
  len : as.length = ys.length
  tak : as.take (ddp ys p).length = ddp ys p
  beh : ∀ q, p - 1 ≤ q → gv as q = gv ys q
  lt : (ddp ys p).length < p
theorem Cmp.no {ys as : List Nat} {p : Nat} (h : Cmp ys as p) (h0 : 0 < p) (e : gv ys p = gv ys (p - 1)) : Cmp ys as (p + 1) := by
  refine ⟨h.len, ?_, fun q hq => h.beh q (by omega), ?_⟩ <;> rw [ddp_no h0 e]
  · exact h.tak
  · have := h.lt; omega
theorem Cmp.yes {ys as : List Nat} {p : Nat} (h : Cmp ys as p) (hp : p < ys.length) (e : gv ys p ≠ gv ys (p - 1)) : Cmp ys (as.set (ddp ys p).length (gv ys p)) (p + 1) := by
  have hl := h.lt
  have hal := h.len
  refine ⟨by simpa using h.len, ?_, fun q hq => ?_, ?_⟩
  · rw [ddp_yes (.inr e), List.length_append, List.length_singleton]
    rw [List.take_add_one, List.take_set, List.set_eq_of_length_le (by rw [List.length_take]; omega), h.tak]
    rw [List.getElem?_set_self (by omega)]
    rfl
  · rw [gv_set _ _ (by omega), if_neg (by omega)]
    exact h.beh q (by omega)
  · rw [ddp_yes (.inr e), List.length_append, List.length_singleton]; omega
theorem Cmp.start {ys : List Nat} {k : Nat} (h0 : 0 < k) (hk : k < ys.length) (ht : ddp ys k = ys.take k) (e : gv ys k = gv ys (k - 1)) : Cmp ys ys (k + 1) := by
  have hl : (ddp ys (k + 1)).length = k := by rw [ddp_no h0 e, ht, List.length_take]; omega
  exact ⟨rfl, by rw [hl, ddp_no h0 e, ht], fun _ _ => rfl, by omega⟩
end Go.Sx
