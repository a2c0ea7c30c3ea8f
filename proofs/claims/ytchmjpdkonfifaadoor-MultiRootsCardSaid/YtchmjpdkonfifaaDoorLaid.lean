/- What a listed package-level table holds: its cells, read off the datum. My own text. -/
import Derived.Test.YtchmjpdkonfifaaDoorIn
import Derived.ProofKit
import Derived.LaidMore
import Derived.OpenShut
import Derived.MakeChecks
import Derived.Stop.Joined
set_option linter.unusedVariables false
namespace Go.Sx
open Go.RowKit Go.ChangeShapes Go.WideShapes
def litV {H : Type} : DataW H → Value
  | .lit (.int k n) => .int k n
  | .lit (.string s) => .string ⟨s.toArray⟩
  | _ => .bool false
theorem laid_arr {H : Type} {enc : TypeId × Value → H} {P : Program} {w : World} {base m n : Nat} {spare : Nat → Bool} {held : Bool} {t e : TypeId} {cs : List Value} {ds : List (DataW H)} {p : List MemPlace} (ht : P.underlying t = some (.array n e)) (hce : P.cellsOf e = 1) (hct : P.cellsOf t = n)
    (he : (∃ k, P.underlying e = some (.int k)) ∨ P.underlying e = some .string) (hd : DataW.trod enc P w base spare held m t cs = some (.agg ds, p)) : cs = ds.map litV := by
  obtain ⟨xs, q, _, hx, hl, hn, hi⟩ := DataW.trod_array ht hd
  simp only [Prod.mk.injEq, DataW.agg.injEq] at hx
  obtain ⟨rfl, _⟩ := hx
  have hlc : cs.length = n := hl.trans hct
  apply List.ext_getElem
  · simp [hlc, hn]
  · intro i h1 h2
    have hin : i < n := by omega
    have := hi i hin
    rw [hce, Nat.mul_one, List.drop_eq_getElem_cons h1] at this
    simp only [List.take_succ_cons, List.take_zero] at this
    have hxi : xs[i]? = some xs[i] := List.getElem?_eq_getElem (by omega)
    rw [hxi] at this
    simp only [List.map_map, List.getElem_map, Function.comp_apply]
    rcases he with ⟨k, he⟩ | he
    · obtain ⟨z, e1, e2, _⟩ := DataW.trod_int he this
      rw [e2]
      simpa [litV] using e1
    · obtain ⟨s, e1, e2, _⟩ := DataW.trod_string he this
      rw [e2]
      simp only [List.cons.injEq, and_true] at e1
      rw [e1]
      simp [litV]
theorem rd_var {P : Program} {w : World} {n : String} {g : Nat} {cs : Array Value} {l : List Value} (hg : P.globalNamed n = some g) (h : w.var? P n = some cs) (hl : cs.toList = l) : Rd w (some ⟨g, 0, none⟩) l :=
  Rd.of_cells fun j u hj => by
    rw [Nat.zero_add, World.var?_cell hg h j]
    subst hl
    simpa using hj
end Go.Sx
