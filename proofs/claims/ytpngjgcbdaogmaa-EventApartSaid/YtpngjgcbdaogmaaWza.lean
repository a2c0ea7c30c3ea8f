/- Walks, written by gen.py off the translation's own print: each says what the Go function comes to. -/
import Derived.Test.YtpngjgcbdaogmaaWz
set_option linter.unusedVariables false
set_option linter.unusedSimpArgs false
namespace Go.Proofs.Ytpngjgcbdaogmaa
open Go.Sx Go.RowKit
attribute [local irreducible] Ac Ex WL WC WX WP Gives

theorem take1_get {l : List UInt8} {i : Nat} {b : UInt8} (h : l[i]? = some b) : beVal ((l.drop i).take 1) = b.toNat := by
  obtain ⟨h1, h2⟩ := List.getElem?_eq_some_iff.1 h
  rw [List.drop_eq_getElem_cons h1, h2]
  simp [beVal]
theorem range_get {l : List UInt8} (h : 41 ≤ l.length) : (List.range 32).map (fun j => l.getD (9 + j) 0) = (l.drop 9).take 32 := by
  apply List.ext_getElem?
  intro j
  rcases Nat.lt_or_ge j 32 with hj | hj
  · rw [List.getElem?_map, List.getElem?_range hj, List.getElem?_take_of_lt hj, List.getElem?_drop, List.getElem?_eq_getElem (by omega)]
    simp [List.getD, List.getElem?_eq_getElem (show 9 + j < l.length by omega)]
  · rw [List.getElem?_eq_none (by simp; omega), List.getElem?_eq_none (by simp; omega)]
theorem evOf_eq {L : List UInt8} {b0 b1 b2 b3 b4 : UInt8} (h : 113 ≤ L.length) (h0 : L[0]? = some b0) (h1 : L[41]? = some b1) (h2 : L[42]? = some b2) (h3 : L[43]? = some b3) (h4 : L[44]? = some b4) :
    evOf L = ⟨b0.toNat, beVal ((L.take 9).drop 1), (List.range 32).map (fun j => L.getD (9 + j) 0), b1.toNat, b2.toNat, b3.toNat, b4.toNat, ofB ((L.take 77).drop 45), ofB ((L.take 109).drop 77), beVal ((L.take 113).drop 109)⟩ := by
  have e0 := take1_get h0
  rw [List.drop_zero] at e0
  rw [evOf, e0, take1_get h1, take1_get h2, take1_get h3, take1_get h4, range_get (by omega), List.drop_take, List.drop_take, List.drop_take, List.drop_take]

end Go.Proofs.Ytpngjgcbdaogmaa
