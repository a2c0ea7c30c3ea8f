/- Walks, written by gen.py off the translation's own print: each says what the Go function comes to. -/
import Derived.Test.YtpngjgcbdaogmaaWv
set_option linter.unusedVariables false
set_option linter.unusedSimpArgs false
namespace Go.Proofs.Ytpngjgcbdaogmaa
open Go.Sx Go.RowKit
attribute [local irreducible] Ac Ex WL WC WX WP Gives

theorem rTake_all {l : List UInt8} {e : Int} {n : Nat} (h : n ≤ l.length) : rTake (l, e) n = (l.take n, (l.drop n, e)) := by
  rw [rTake, if_neg (by simp only; omega)]
theorem eget_law {l o1 o2 o3 o4 o5 o6 o7 o8 o9 o10 l1 l2 l3 l4 l5 l6 l7 l8 l9 l10 : List UInt8} {e1 e2 e3 e4 e5 e6 e7 e8 e9 e10 : Int}
    (h1 : (o1, (l1, e1)) = rTake ((l, 0) : RS) 1) (h2 : (o2, (l2, e2)) = rTake (l1, e1) 8) (h3 : (o3, (l3, e3)) = rTake (l2, e2) 32) (h4 : (o4, (l4, e4)) = rTake (l3, e3) 1) (h5 : (o5, (l5, e5)) = rTake (l4, e4) 1) (h6 : (o6, (l6, e6)) = rTake (l5, e5) 1)
    (h7 : (o7, (l7, e7)) = rTake (l6, e6) 1) (h8 : (o8, (l8, e8)) = rTake (l7, e7) 32) (h9 : (o9, (l9, e9)) = rTake (l8, e8) 32) (h10 : (o10, (l10, e10)) = rTake (l9, e9) 4) :
    (113 ≤ l.length ∧ (⟨beVal o1, beVal o2, hash32 o3, beVal o4, beVal o5, beVal o6, beVal o7, rInt o8, rInt o9, beVal o10⟩ : Ev) = evOf l ∧ l10 = l.drop 113 ∧ e10 = 0) ∨ (l.length < 113 ∧ l10 = [] ∧ e10 = 4) := by
  rcases Nat.lt_or_ge l.length 113 with hl | hl
  · right
    have hk := takes_few [1, 8, 32, 1, 1, 1, 1, 32, 32, 4] l (by simp) (by simpa using hl)
    simp only [takes] at hk
    rw [← h1] at hk; dsimp only at hk
    rw [← h2] at hk; dsimp only at hk
    rw [← h3] at hk; dsimp only at hk
    rw [← h4] at hk; dsimp only at hk
    rw [← h5] at hk; dsimp only at hk
    rw [← h6] at hk; dsimp only at hk
    rw [← h7] at hk; dsimp only at hk
    rw [← h8] at hk; dsimp only at hk
    rw [← h9] at hk; dsimp only at hk
    rw [← h10] at hk
    simp only [Prod.mk.injEq] at hk
    exact ⟨hl, hk.1, hk.2⟩
  · left
    rw [rTake_all (by omega)] at h1
    simp only [Prod.mk.injEq] at h1
    obtain ⟨rfl, rfl, rfl⟩ := h1
    rw [rTake_all (by simp; omega)] at h2
    simp only [Prod.mk.injEq, List.drop_drop] at h2
    obtain ⟨rfl, rfl, rfl⟩ := h2
    rw [rTake_all (by simp; omega)] at h3
    simp only [Prod.mk.injEq, List.drop_drop] at h3
    obtain ⟨rfl, rfl, rfl⟩ := h3
    rw [rTake_all (by simp; omega)] at h4
    simp only [Prod.mk.injEq, List.drop_drop] at h4
    obtain ⟨rfl, rfl, rfl⟩ := h4
    rw [rTake_all (by simp; omega)] at h5
    simp only [Prod.mk.injEq, List.drop_drop] at h5
    obtain ⟨rfl, rfl, rfl⟩ := h5
    rw [rTake_all (by simp; omega)] at h6
    simp only [Prod.mk.injEq, List.drop_drop] at h6
    obtain ⟨rfl, rfl, rfl⟩ := h6
    rw [rTake_all (by simp; omega)] at h7
    simp only [Prod.mk.injEq, List.drop_drop] at h7
    obtain ⟨rfl, rfl, rfl⟩ := h7
    rw [rTake_all (by simp; omega)] at h8
    simp only [Prod.mk.injEq, List.drop_drop] at h8
    obtain ⟨rfl, rfl, rfl⟩ := h8
    rw [rTake_all (by simp; omega)] at h9
    simp only [Prod.mk.injEq, List.drop_drop] at h9
    obtain ⟨rfl, rfl, rfl⟩ := h9
    rw [rTake_all (by simp; omega)] at h10
    simp only [Prod.mk.injEq, List.drop_drop] at h10
    obtain ⟨rfl, rfl, rfl⟩ := h10
    refine ⟨hl, ?_, rfl, rfl⟩
    have q3 : ((l.drop 9).take 32).length = 32 := by simp; omega
    have q8 : ((l.drop 45).take 32).length = 32 := by simp; omega
    have q9 : ((l.drop 77).take 32).length = 32 := by simp; omega
    simp only [evOf, rInt, if_pos q8, if_pos q9, hash32, q3, Nat.sub_self, List.replicate_zero, List.append_nil]
theorem evOf_ok {l : List UInt8} (h : 113 ≤ l.length) : EvOk (evOf l) :=
  ⟨Nat.lt_of_lt_of_le (beVal_lt_of (n := 1) (by simp; omega)) (by decide), Nat.lt_of_lt_of_le (beVal_lt_of (n := 8) (by simp; omega)) (by decide), by simp [evOf]; omega, Nat.lt_of_lt_of_le (beVal_lt_of (n := 1) (by simp; omega)) (by decide),
    Nat.lt_of_lt_of_le (beVal_lt_of (n := 1) (by simp; omega)) (by decide), Nat.lt_of_lt_of_le (beVal_lt_of (n := 1) (by simp; omega)) (by decide), Nat.lt_of_lt_of_le (beVal_lt_of (n := 1) (by simp; omega)) (by decide), ofB_ok (by simp; omega), ofB_ok (by simp; omega), Nat.lt_of_lt_of_le (beVal_lt_of (n := 4) (by simp; omega)) (by decide)⟩

end Go.Proofs.Ytpngjgcbdaogmaa
