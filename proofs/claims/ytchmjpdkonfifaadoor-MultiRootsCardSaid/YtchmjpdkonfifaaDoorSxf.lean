/-
  A walk by small steps, part 6: a statement whose order is open, with several things that turn; and shorter words.
-/
import Derived.Test.YtchmjpdkonfifaaDoorSxe
set_option linter.unusedVariables false
set_option linter.unusedSimpArgs false
namespace Go.Sx
open Go.RowKit

section
variable {w0 w w' : World} {F : Nat → Prop} {rs : List Res}
/-- The blocks of the things at these places. -/
def FP (_ : Mem w0 w F rs) (is : List Nat) (b : Nat) : Prop := ∃ i ∈ is, ∃ r, rs[i]? = some r ∧ b ∈ r.fp
theorem Mem.base (M : Mem w0 w F rs) (is : List Nat) (hs : is.Pairwise (· < ·)) : Mem w w (FP M is) (is.filterMap (rs[·]?)) := by
  refine ⟨Keep.refl _ _, fun r hr => ?_, fun r hr b hb => ?_, ?_⟩
  · obtain ⟨i, _, hi⟩ := List.mem_filterMap.1 hr
    exact M.get hi
  · obtain ⟨i, hm, hi⟩ := List.mem_filterMap.1 hr
    exact .inr ⟨i, hm, r, hi, hb⟩
  · rw [List.pairwise_filterMap]
    exact hs.imp fun {i j} hij r hr s hs b hb => M.apart hr hs (Nat.ne_of_lt hij) b hb
theorem Mem.fp_not (M : Mem w0 w F rs) {is : List Nat} {j : Nat} {r : Res} (hj : rs[j]? = some r) (hn : is.contains j = false) : ∀ b ∈ r.fp, ¬ FP M is b := by
  rintro b hb ⟨i, hi, s, hs, hbs⟩
  have hne : i ≠ j := fun e => by subst e; simp [hi] at hn
  exact M.apart hs hj hne b hbs hb
theorem Mem.fp_sat (M : Mem w0 w F rs) {is : List Nat} {j : Nat} {r : Res} (K : Keep (FP M is) w w') (hj : rs[j]? = some r) (hn : is.contains j = false) : r.sat w' :=
  r.loc w w' (M.get hj) fun b hb => K.block b (r.lt w (M.get hj) b hb) (M.fp_not hj hn b hb)
theorem Mem.fp_cell (M : Mem w0 w F rs) {is : List Nat} {j g o : Nat} {l : List Value} {e : TypeId} {fr : Nat × Nat} {v : Value} (K : Keep (FP M is) w w') (hj : rs[j]? = some (blk g l e fr)) (hl : l[o]? = some v) (hn : is.contains j = false) : w'.cell? ⟨g, o, none⟩ = some v :=
  K.cell (M.cell hj hl) (M.fp_not hj hn g (by simp [blk]))
theorem Mem.fp_rdt (M : Mem w0 w F rs) {is : List Nat} {j g o m : Nat} {l xs : List Value} {e : TypeId} {fr : Nat × Nat} (K : Keep (FP M is) w w') (hj : rs[j]? = some (blk g l e fr)) (h : (l.drop o).take m = xs) (hn : is.contains j = false) : Rd w' (some ⟨g, o, none⟩) xs :=
  (M.rdt hj h).keep K fun a ha => by injection ha with ha; subst ha; exact M.fp_not hj hn g (by simp [blk])
theorem Mem.fp_rdw (M : Mem w0 w F rs) {is : List Nat} {j g : Nat} {l : List Value} {e : TypeId} {fr : Nat × Nat} (K : Keep (FP M is) w w') (hj : rs[j]? = some (blk g l e fr)) (hn : is.contains j = false) : Rd w' (some ⟨g, 0, none⟩) l :=
  (M.rdw hj).keep K fun a ha => by injection ha with ha; subst ha; exact M.fp_not hj hn g (by simp [blk])
theorem Mem.fp_rdr (M : Mem w0 w F rs) {is : List Nat} {j : Nat} {A : Option Addr} {e : TypeId} {sz n c : Nat} {xs : List Value} (K : Keep (FP M is) w w') (hj : rs[j]? = some (row (.slice A n c) e sz n xs)) (hn : is.contains j = false) : Rd w' A xs :=
  rd_of_own (M.fp_sat K hj hn)
theorem Mem.fp_old (M : Mem w0 w nof rs) {is : List Nat} {A : Option Addr} {xs : List Value} (K : Keep (FP M is) w w') (h : Rd w0 A xs) : Rd w' A xs := fun j u hj => by
  obtain ⟨a, ha, hc⟩ := h j u hj
  refine ⟨a, ha, K.cell (M.keep.cell hc fun f => f) ?_⟩
  rintro ⟨i, _, r, hr, hb⟩
  have hlt := World.block_lt_of_cell? w0 _ hc
  rcases M.own r (List.mem_of_getElem? hr) _ hb with h1 | h1
  · omega
  · exact h1
theorem nest_one {l m : List Value} {o n k : Nat} {v : Value} (h1 : (l.drop o).take n = m) (h2 : m[k]? = some v) (hk : k < n) : l[o + k]? = some v := by
  rw [← h1, List.getElem?_take_of_lt hk, List.getElem?_drop] at h2
  exact h2
/-- A cell of a thing, read as a named thing: the list is exchanged for an equal one. -/
theorem Mem.eqv (M : Mem w0 w F rs) {i : Nat} {r r' : Res} (hi : rs[i]? = some r) (h : r = r') : Mem w0 w F (rs.set i r') := by
  subst h
  exact M.turn hi (Keep.refl _ _) (M.get hi) fun b hb => .inl hb
end

section
variable {P : Program} {n : Nat} {ops : Array Oper} {Q : Post} {rest : List Oper} {env : Env} {w : World} {o : Oper} {d : Nat}
/-- The value gets a name. -/
theorem WL.exn {α : Type} {f : α → Value} {x0 : α} (hg : o.guard = none) (hd : o.dst = some d) (hn : Nat.ble (d + 1) n = true) (h : Ex P n env o (f x0) w)
    (k : ∀ x, x = x0 → WL P n ops Q rest ((d, f x) :: env) w) : WL P n ops Q (o :: rest) env w := WL.ex hg hd hn h (k x0 rfl)
end
section
variable {P : Program} {n : Nat} {l : List Oper} {Q : Post} {S : World → Prop} {fin : List Nat} {env : Env} {w : World} {r : PT} {i d : Nat} {o : Oper}
theorem WP.pn {α : Type} {f : α → Value} {x0 : α} (hi : l[i]? = some o) (hg : o.guard = none) (hd : o.dst = some d) (hn : Nat.ble (d + 1) n = true) (h : ∀ w, Ex P n env o (f x0) w) (k : ∀ x, x = x0 → WP P n l Q S fin r ((d, f x) :: env) w) : WP P n l Q S fin (.one i 0 r) env w :=
  WP.p hi hg hd hn h (k x0 rfl)
end
end Go.Sx
