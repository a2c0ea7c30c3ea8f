/-
  A walk by small steps, part 3: memory. What a call owns stands in a list of things that lie apart; what was there before stays.
-/
import Derived.Test.YtchmjpdkonfifaaDoorSxb
import Derived.Maps.AppendAt
import Derived.Deep.AppendLies
import Derived.Laws.CopyRow
import Derived.Laws.OwnMore
set_option linter.unusedVariables false
set_option linter.unusedSimpArgs false
namespace Go.Sx
open Go.RowKit

theorem add0 (g o j : Nat) : (⟨g, o, none⟩ : Addr).add j = ⟨g, o + j, none⟩ := by unfold Addr.add; split <;> simp_all
theorem block_add (a : Addr) (j : Nat) : (a.add j).block = a.block := by unfold Addr.add; split <;> rfl
theorem add_add (a : Addr) (i j : Nat) : (a.add i).add j = a.add (i + j) := by
  unfold Addr.add
  by_cases hi : i = 0 <;> by_cases hj : j = 0 <;> simp [hi, hj, Nat.add_assoc]

/-- Nothing may be written. -/
def nof : Nat → Prop := fun _ => False
/-- But for the blocks of F the old blocks are as they were. -/
structure Keep (F : Nat → Prop) (w w' : World) : Prop where
  os : w'.os = w.os
  tape : w'.tape = w.tape
  output : w'.output = w.output
  size : w.heap.size ≤ w'.heap.size
  block : ∀ k, k < w.heap.size → ¬ F k → w'.heap[k]? = w.heap[k]?
theorem Keep.refl (F : Nat → Prop) (w : World) : Keep F w w := ⟨rfl, rfl, rfl, Nat.le_refl _, fun _ _ _ => rfl⟩
theorem Keep.trans {F : Nat → Prop} {a b c : World} (h : Keep F a b) (k : Keep F b c) : Keep F a c :=
  ⟨k.os.trans h.os, k.tape.trans h.tape, k.output.trans h.output, Nat.le_trans h.size k.size, fun i hi hF => (k.block i (Nat.lt_of_lt_of_le hi h.size) hF).trans (h.block i hi hF)⟩
theorem Keep.mono {F F' : Nat → Prop} {a b : World} (h : Keep F a b) (hF : ∀ k, k < a.heap.size → F k → F' k) : Keep F' a b := ⟨h.os, h.tape, h.output, h.size, fun i hi hn => h.block i hi fun f => hn (hF i hi f)⟩
theorem Keep.any {F : Nat → Prop} {a b : World} (h : Keep nof a b) : Keep F a b := h.mono fun _ _ f => f.elim
theorem Keep.alloc (F : Nat → Prop) (w : World) (o : Obj) : Keep F w (w.alloc o) := ⟨rfl, rfl, rfl, by simp, fun k hk _ => Below.heap_alloc w o k hk⟩
theorem Keep.drew (F : Nat → Prop) (w : World) : Keep F w w.drew := ⟨rfl, rfl, rfl, Nat.le_refl _, fun _ _ _ => rfl⟩
theorem Keep.grown {w w' : World} {row : Option Nat} (h : w.grownBy w' row) : Keep (fun k => some k = row) w w' := ⟨h.os, h.tape, h.output, h.size, fun k hk hn => h.block k hk hn⟩
theorem Keep.below {w w' : World} (h : Keep nof w w') : Below w.heap.size w w' := ⟨h.os, h.tape, h.output, h.size, fun k hk => h.block k hk fun f => f⟩
theorem Keep.of_below {w w' : World} (h : Below w.heap.size w w') : Keep nof w w' := ⟨h.os, h.tape, h.output, h.size, fun k hk _ => h.block k hk⟩
theorem Keep.cell {F : Nat → Prop} {w w' : World} (h : Keep F w w') {a : Addr} {v : Value} (hc : w.cell? a = some v) (hF : ¬ F a.block) : w'.cell? a = some v :=
  (World.cell?_of_block (h.block a.block (World.block_lt_of_cell? w a hc) hF)).trans hc

/-! ### What is read: a row of cells behind an address that may be nil -/
def Rd (w : World) (A : Option Addr) (xs : List Value) : Prop := ∀ j u, xs[j]? = some u → ∃ a, A = some a ∧ w.cell? (a.add j) = some u
theorem Rd.nil (w : World) (A : Option Addr) : Rd w A [] := fun j u h => by simp at h
theorem Rd.keep {F : Nat → Prop} {w w' : World} {A : Option Addr} {xs : List Value} (h : Rd w A xs) (k : Keep F w w') (hF : ∀ a, A = some a → ¬ F a.block) : Rd w' A xs := fun j u hj => by
  obtain ⟨a, ha, hc⟩ := h j u hj
  exact ⟨a, ha, k.cell hc (by rw [block_add]; exact hF a ha)⟩
theorem Rd.keep0 {w w' : World} {A : Option Addr} {xs : List Value} (h : Rd w A xs) (k : Keep nof w w') : Rd w' A xs := h.keep k fun _ _ f => f
theorem Rd.drop {w : World} {A : Option Addr} {xs : List Value} (h : Rd w A xs) (k : Nat) : Rd w (A.map (·.add k)) (xs.drop k) := fun j u hj => by
  obtain ⟨a, ha, hc⟩ := h (k + j) u (by rw [← hj, List.getElem?_drop])
  exact ⟨a.add k, by simp [ha], by rw [add_add]; exact hc⟩
/-- As the model writes a cut: at the capacity's end the address stays. -/
theorem Rd.cut {w : World} {A : Option Addr} {xs : List Value} (h : Rd w A xs) {k m sz : Nat} (hm : m = k → xs.length ≤ k * sz) : Rd w (if m = k then A else A.map (·.add (k * sz))) (xs.drop (k * sz)) := by
  by_cases e : m = k
  · rw [List.drop_eq_nil_of_le (hm e)]; exact Rd.nil _ _
  · rw [if_neg e]; exact h.drop _
theorem Rd.take {w : World} {A : Option Addr} {xs : List Value} (h : Rd w A xs) (k : Nat) : Rd w A (xs.take k) := fun j u hj => by
  have hj' : xs[j]? = some u := by
    obtain ⟨h1, h2⟩ := List.getElem?_eq_some_iff.1 hj
    simp only [List.length_take] at h1
    rw [List.getElem?_eq_getElem (by omega)]
    simpa using h2
  exact h j u hj'
theorem Rd.some_of {w : World} {A : Option Addr} {xs : List Value} (h : Rd w A xs) (hn : 0 < xs.length) : ∃ a, A = some a := by
  obtain ⟨a, ha, _⟩ := h 0 xs[0] (List.getElem?_eq_getElem hn)
  exact ⟨a, ha⟩
theorem spot_of_cell {w : World} {a : Addr} {v : Value} (h : w.cell? a = some v) : a.spot = none := by
  unfold World.cell? at h
  split at h
  · split at h
    · cases h
    · rename_i hs
      cases hsp : a.spot with
      | none => rfl
      | some s => rw [hsp] at hs; simp at hs
  · cases h
theorem Rd.plain {w : World} {A : Option Addr} {xs : List Value} (h : Rd w A xs) (hn : 0 < xs.length) : ∃ g o, A = some ⟨g, o, none⟩ ∧ g < w.heap.size ∧ ∀ j u, xs[j]? = some u → w.cell? ⟨g, o + j, none⟩ = some u := by
  obtain ⟨a, ha, hc⟩ := h 0 xs[0] (List.getElem?_eq_getElem hn)
  have hs := spot_of_cell hc
  have h0 : a.add 0 = a := by simp [Addr.add]
  rw [h0] at hs hc
  obtain ⟨g, o, s⟩ := a
  simp only at hs
  subst hs
  refine ⟨g, o, ha, World.block_lt_of_cell? w _ hc, fun j u hj => ?_⟩
  obtain ⟨a', ha', hc'⟩ := h j u hj
  rw [ha] at ha'
  injection ha' with ha'
  subst ha'
  rw [add0] at hc'
  exact hc'
theorem Rd.at1 {w : World} {g o : Nat} {xs : List Value} (h : Rd w (some ⟨g, o, none⟩) xs) {j : Nat} {u : Value} (hj : xs[j]? = some u) : w.cell? ⟨g, o + j, none⟩ = some u := by
  obtain ⟨a, ha, hc⟩ := h j u hj
  injection ha with ha
  subst ha
  rw [add0] at hc
  exact hc
theorem Rd.of_cells {w : World} {g o : Nat} {xs : List Value} (h : ∀ j u, xs[j]? = some u → w.cell? ⟨g, o + j, none⟩ = some u) : Rd w (some ⟨g, o, none⟩) xs := fun j u hj => ⟨_, rfl, by rw [add0]; exact h j u hj⟩

/-! ### What is owned -/
structure Res where
  fp : List Nat
  sat : World → Prop
  lt : ∀ w, sat w → ∀ b, b ∈ fp → b < w.heap.size
  loc : ∀ w w' : World, sat w → (∀ b, b ∈ fp → w'.heap[b]? = w.heap[b]?) → sat w'
theorem lt_of_heap {w : World} {g : Nat} {o : Obj} (h : w.heap[g]? = some o) : g < w.heap.size := (Array.getElem?_eq_some_iff.1 h).1
/-- A block that is known whole. -/
def blk (g : Nat) (l : List Value) (e : TypeId) (fr : Nat × Nat := (0, 0)) : Res where
  fp := [g]
  sat w := w.heap[g]? = some (.cells l.toArray e fr)
  lt w h b hb := by simp at hb; subst hb; exact lt_of_heap h
  loc w w' h hk := by rw [hk g (by simp)]; exact h
/-- A row that grows. -/
def row (v : Value) (e : TypeId) (sz n : Nat) (xs : List Value) : Res where
  fp := v.ownBlock.toList
  sat w := w.ownsRow 0 e sz v n xs
  lt w h b hb := (h.lt b (by simpa using hb)).2
  loc w w' h hk := by
    refine ⟨h.1, ?_⟩
    rcases h.2 with h2 | ⟨g, cap, cur, hv, hb, hg, rest⟩
    · exact .inl h2
    · refine .inr ⟨g, cap, cur, hv, hb, ?_, rest⟩
      rw [hk g (by subst hv; simp [Value.ownBlock])]
      exact hg
/-- A struct behind a pointer, and the row in one of its cells. -/
def box1 (g : Nat) (l : Value → List Value) (e : TypeId) (v : Value) (e' : TypeId) (sz n : Nat) (xs : List Value) : Res where
  fp := g :: v.ownBlock.toList
  sat w := w.heap[g]? = some (.cells (l v).toArray e (0, 0)) ∧ w.ownsRow 0 e' sz v n xs ∧ v.ownBlock ≠ some g
  lt w h b hb := by
    rcases List.mem_cons.1 hb with rfl | hb
    · exact lt_of_heap h.1
    · exact (row v e' sz n xs).lt w h.2.1 b hb
  loc w w' h hk := ⟨by rw [hk g (by simp)]; exact h.1, (row v e' sz n xs).loc w w' h.2.1 (fun b hb => hk b (by simp [row] at hb; simp [hb])), h.2.2⟩

structure Mem (w0 w : World) (F : Nat → Prop) (rs : List Res) : Prop where
  keep : Keep F w0 w
  sat : ∀ r ∈ rs, r.sat w
  own : ∀ r ∈ rs, ∀ b ∈ r.fp, w0.heap.size ≤ b ∨ F b
  dis : rs.Pairwise fun r s => ∀ b ∈ r.fp, b ∉ s.fp

section
variable {w0 w w' : World} {F : Nat → Prop} {rs : List Res} {r r' : Res}
theorem Mem.start (w : World) (F : Nat → Prop) : Mem w w F [] := ⟨Keep.refl _ _, by simp, by simp, by simp⟩
theorem Mem.start1 (hs : r.sat w) (hF : ∀ b ∈ r.fp, F b) : Mem w w F [r] := ⟨Keep.refl _ _, by simpa using hs, by simpa using fun b hb => .inr (hF b hb), by simp⟩
theorem Mem.get (M : Mem w0 w F rs) {i : Nat} (hi : rs[i]? = some r) : r.sat w := M.sat r (List.mem_of_getElem? hi)
theorem Mem.apart (M : Mem w0 w F rs) {i j : Nat} {s : Res} (hi : rs[i]? = some r) (hj : rs[j]? = some s) (hne : i ≠ j) : ∀ b ∈ r.fp, b ∉ s.fp := by
  have := List.pairwise_iff_getElem.1 M.dis
  obtain ⟨h1, h2⟩ := List.getElem?_eq_some_iff.1 hi
  obtain ⟨h3, h4⟩ := List.getElem?_eq_some_iff.1 hj
  rcases Nat.lt_or_gt_of_ne hne with h | h
  · have := this i j h1 h3 h; rw [h2, h4] at this; exact this
  · have := this j i h3 h1 h; rw [h2, h4] at this; exact fun b hb hs => this b hs hb
/-- Nothing old is written. -/
theorem Mem.step (M : Mem w0 w F rs) (K : Keep nof w w') : Mem w0 w' F rs :=
  ⟨M.keep.trans K.any, fun r hr => r.loc w w' (M.sat r hr) fun b hb => K.block b (r.lt w (M.sat r hr) b hb) fun f => f, M.own, M.dis⟩
/-- Nothing old is written, and something new is there. -/
theorem Mem.grow (M : Mem w0 w F rs) (K : Keep nof w w') (hs : r.sat w') (hf : ∀ b ∈ r.fp, w.heap.size ≤ b) : Mem w0 w' F (r :: rs) :=
  ⟨M.keep.trans K.any, fun s hm => by
      rcases List.mem_cons.1 hm with rfl | hm
      · exact hs
      · exact (M.step K).sat s hm,
    fun s hm b hb => by
      rcases List.mem_cons.1 hm with rfl | hm
      · exact .inl (Nat.le_trans M.keep.size (hf b hb))
      · exact M.own s hm b hb,
    List.pairwise_cons.2 ⟨fun s hm b hb hb' => by have := s.lt w (M.sat s hm) b hb'; have := hf b hb; omega, M.dis⟩⟩
theorem mem_set {l : List Res} {i : Nat} {x y : Res} (h : y ∈ l.set i x) : y = x ∨ ∃ j, j ≠ i ∧ l[j]? = some y := by
  obtain ⟨j, hj⟩ := List.getElem?_of_mem h
  rw [List.getElem?_set] at hj
  split at hj
  · split at hj
    · injection hj with hj; exact .inl hj.symm
    · cases hj
  · exact .inr ⟨j, fun e => by subst e; contradiction, hj⟩
/-- Thing i is written; it turns into r'. -/
theorem Mem.turn (M : Mem w0 w F rs) {i : Nat} (hi : rs[i]? = some r) (K : Keep (· ∈ r.fp) w w') (hs : r'.sat w') (hf : ∀ b ∈ r'.fp, b ∈ r.fp ∨ w.heap.size ≤ b) : Mem w0 w' F (rs.set i r') := by
  have hr := List.mem_of_getElem? hi
  refine ⟨⟨K.os.trans M.keep.os, K.tape.trans M.keep.tape, K.output.trans M.keep.output, Nat.le_trans M.keep.size K.size, fun b hb hF => ?_⟩, fun s hm => ?_, fun s hm b hb => ?_, ?_⟩
  · have hn : b ∉ r.fp := fun hm => by rcases M.own r hr b hm with h | h; · omega
                                       · exact hF h
    exact (K.block b (Nat.lt_of_lt_of_le hb M.keep.size) hn).trans (M.keep.block b hb hF)
  · rcases mem_set hm with rfl | ⟨j, hne, hj⟩
    · exact hs
    · have hsat := M.get hj
      exact s.loc w w' hsat fun b hb => K.block b (s.lt w hsat b hb) (M.apart hj hi hne b hb)
  · rcases mem_set hm with rfl | ⟨j, hne, hj⟩
    · rcases hf b hb with h | h
      · exact M.own r hr b h
      · exact .inl (Nat.le_trans M.keep.size h)
    · exact M.own s (List.mem_of_getElem? hj) b hb
  · refine List.pairwise_iff_getElem.2 fun p q hp hq hpq => ?_
    simp only [List.length_set] at hp hq
    have h0 := List.pairwise_iff_getElem.1 M.dis p q hp hq hpq
    obtain ⟨hil, hir⟩ := List.getElem?_eq_some_iff.1 hi
    simp only [List.getElem_set]
    split
    · rename_i h1
      split
      · omega
      · subst h1
        intro b hb hb'
        rw [hir] at h0
        rcases hf b hb with h | h
        · exact h0 b h hb'
        · have := rs[q].lt w (M.sat _ (List.getElem_mem hq)) b hb'; omega
    · split
      · rename_i h1 h2
        subst h2
        intro b hb hb'
        rw [hir] at h0
        rcases hf b hb' with h | h
        · exact h0 b hb h
        · have := rs[p].lt w (M.sat _ (List.getElem_mem hp)) b hb; omega
      · exact h0
theorem Mem.sub {rs' : List Res} (M : Mem w0 w F rs) (h : rs'.Sublist rs) : Mem w0 w F rs' :=
  ⟨M.keep, fun r hr => M.sat r (h.subset hr), fun r hr => M.own r (h.subset hr), M.dis.sublist h⟩
theorem Mem.drop1 {s : Res} (M : Mem w0 w F (s :: rs)) : Mem w0 w F rs := M.sub (List.sublist_cons_self _ _)
theorem Mem.perm {rs' : List Res} (M : Mem w0 w F rs) (h : rs.Perm rs') : Mem w0 w F rs' :=
  ⟨M.keep, fun r hr => M.sat r (h.mem_iff.2 hr), fun r hr => M.own r (h.mem_iff.2 hr), (h.pairwise_iff (fun h b hb hb' => h b hb' hb)).1 M.dis⟩
/-- Something that owns nothing. -/
theorem Mem.free (M : Mem w0 w F rs) (hs : r.sat w) (hf : r.fp = []) : Mem w0 w F (r :: rs) :=
  M.grow (Keep.refl _ _) hs (by simp [hf])
theorem row_nil (w : World) (e : TypeId) (sz : Nat) : (row (.slice none 0 0) e sz 0 []).sat w := World.ownsRow_nil w 0 e sz
theorem Mem.rd {A : Option Addr} {xs : List Value} (M : Mem w0 w nof rs) (h : Rd w0 A xs) : Rd w A xs := h.keep0 M.keep
theorem Mem.cell {i g o : Nat} {l : List Value} {e : TypeId} {fr : Nat × Nat} {v : Value} (M : Mem w0 w F rs) (hi : rs[i]? = some (blk g l e fr)) (hl : l[o]? = some v) : w.cell? ⟨g, o, none⟩ = some v := by
  have := M.get hi
  rw [cell_of_row w g o _ e fr this]
  simpa using hl
theorem Mem.rdb {i g o : Nat} {l : List Value} {e : TypeId} {fr : Nat × Nat} (M : Mem w0 w F rs) (hi : rs[i]? = some (blk g l e fr)) : Rd w (some ⟨g, o, none⟩) (l.drop o) :=
  Rd.of_cells fun j u hj => M.cell hi (by rw [← hj, List.getElem?_drop])
theorem Mem.rdw {i g : Nat} {l : List Value} {e : TypeId} {fr : Nat × Nat} (M : Mem w0 w F rs) (hi : rs[i]? = some (blk g l e fr)) : Rd w (some ⟨g, 0, none⟩) l := by
  have := M.rdb (o := 0) hi
  simpa using this
theorem rd_of_own {A : Option Addr} {e : TypeId} {sz n c : Nat} {xs : List Value} (h : w.ownsRow 0 e sz (.slice A n c) n xs) : Rd w A xs := by
  rcases h.2 with ⟨hv, hn⟩ | ⟨g, cap, cur, hv, _, hg, _⟩
  · have : xs = [] := List.eq_nil_of_length_eq_zero (by rw [h.1, hn]; simp)
    subst this; exact Rd.nil _ _
  · have hA : A = some ⟨g, 0, none⟩ := by injection hv
    subst hA
    exact fun j u hj => ⟨_, rfl, h.cells (g := g) rfl j u hj⟩
theorem own_slice {v : Value} {e : TypeId} {sz n : Nat} {xs : List Value} (h : w.ownsRow 0 e sz v n xs) : ∃ A c, v = .slice A n c := by
  rcases h.2 with ⟨rfl, rfl⟩ | ⟨g, cap, cur, rfl, _⟩
  · exact ⟨none, 0, rfl⟩
  · exact ⟨_, cap, rfl⟩
theorem Mem.rdr {i : Nat} {A : Option Addr} {e : TypeId} {sz n c : Nat} {xs : List Value} (M : Mem w0 w F rs) (hi : rs[i]? = some (row (.slice A n c) e sz n xs)) : Rd w A xs := rd_of_own (M.get hi)
end

/-- Something new, and nothing old is written. -/
structure New (w w' : World) (r : Res) : Prop where
  keep : Keep nof w w'
  sat : r.sat w'
  fresh : ∀ b ∈ r.fp, w.heap.size ≤ b
theorem Mem.new {w0 w w' : World} {F : Nat → Prop} {rs : List Res} {r : Res} (M : Mem w0 w F rs) (h : New w w' r) : Mem w0 w' F (r :: rs) := M.grow h.keep h.sat h.fresh
theorem Mem.toNew {w w' : World} {rs : List Res} {r : Res} (M : Mem w w' nof (r :: rs)) : New w w' r :=
  ⟨M.keep, M.sat r (by simp), fun b hb => (M.own r (by simp) b hb).resolve_right fun f => f⟩

/-- A thing is written and turns into another; nothing else old is written. -/
structure Turn (w w' : World) (r r' : Res) : Prop where
  keep : Keep (· ∈ r.fp) w w'
  sat : r'.sat w'
  fresh : ∀ b ∈ r'.fp, b ∈ r.fp ∨ w.heap.size ≤ b
theorem Mem.turned {w0 w w' : World} {F : Nat → Prop} {rs : List Res} {r r' : Res} (M : Mem w0 w F rs) {i : Nat} (hi : rs[i]? = some r) (h : Turn w w' r r') : Mem w0 w' F (rs.set i r') := M.turn hi h.keep h.sat h.fresh
theorem Mem.begin {w : World} {r : Res} (h : r.sat w) : Mem w w (· ∈ r.fp) [r] := Mem.start1 h fun _ hb => hb
theorem Mem.toTurn {w w' : World} {rs : List Res} {r r' : Res} (M : Mem w w' (· ∈ r.fp) (r' :: rs)) : Turn w w' r r' :=
  ⟨M.keep, M.sat r' (by simp), fun b hb => (M.own r' (by simp) b hb).symm⟩
theorem Mem.turn0 {w0 w : World} {F : Nat → Prop} {rs : List Res} {r r' : Res} (M : Mem w0 w F (r :: rs)) (hs : r'.sat w) (hf : ∀ b ∈ r'.fp, b ∈ r.fp) : Mem w0 w F (r' :: rs) :=
  M.turn (i := 0) rfl (Keep.refl _ _) hs fun b hb => .inl (hf b hb)
theorem Turn.refl {w : World} {r : Res} (h : r.sat w) : Turn w w r r := ⟨Keep.refl _ _, h, fun _ hb => .inl hb⟩
theorem Turn.trans {w w1 w2 : World} {r r1 r2 : Res} (h : Turn w w1 r r1) (k : Turn w1 w2 r1 r2) : Turn w w2 r r2 :=
  ⟨⟨k.keep.os.trans h.keep.os, k.keep.tape.trans h.keep.tape, k.keep.output.trans h.keep.output, Nat.le_trans h.keep.size k.keep.size, fun b hb hn =>
      (k.keep.block b (Nat.lt_of_lt_of_le hb h.keep.size) fun hm => (h.fresh b hm).elim hn fun hle => by omega).trans (h.keep.block b hb hn)⟩,
    k.sat, fun b hb => (k.fresh b hb).elim (h.fresh b) fun hle => .inr (Nat.le_trans h.keep.size hle)⟩
theorem Mem.rdt {w0 w : World} {F : Nat → Prop} {rs : List Res} {i g o m : Nat} {l xs : List Value} {e : TypeId} {fr : Nat × Nat} (M : Mem w0 w F rs) (hi : rs[i]? = some (blk g l e fr)) (h : (l.drop o).take m = xs) : Rd w (some ⟨g, o, none⟩) xs := by
  have := (M.rdb (o := o) hi).take m
  rwa [h] at this
/-- An element of a row of things of one size. -/
theorem flat_drop {α : Type} {f : α → List Value} {k : Nat} : ∀ {as : List α} {i : Nat} {a : α}, (∀ a ∈ as, (f a).length = k) → as[i]? = some a → ((as.flatMap f).drop (i * k)).take k = f a
  | [], _, _, _, h => by simp at h
  | b :: r, 0, a, hk, h => by
    simp at h
    subst h
    have := hk b (by simp)
    simp [List.take_append_of_le_length, this]
  | b :: r, i + 1, a, hk, h => by
    have h1 := hk b (by simp)
    simp at h
    have := flat_drop (fun a ha => hk a (by simp [ha])) h
    rw [List.flatMap_cons, Nat.succ_mul, Nat.add_comm, ← List.drop_drop, ← h1, List.drop_left, h1]
    exact this
theorem Rd.flat {w : World} {b o k i : Nat} {α : Type} {f : α → List Value} {as : List α} {a : α} (h : Rd w (some ⟨b, o, none⟩) (as.flatMap f)) (hk : ∀ a ∈ as, (f a).length = k) (ha : as[i]? = some a) : Rd w (some ⟨b, o + i * k, none⟩) (f a) := by
  have h1 := (h.drop (i * k)).take k
  rw [flat_drop hk ha] at h1
  simpa [add0] using h1
theorem Rd.flat_plain {w : World} {A : Option Addr} {α : Type} {f : α → List Value} {as : List α} {a : α} (h : Rd w A (as.flatMap f)) (ha : a ∈ as) (hp : 0 < (f a).length) : ∃ b o, A = some ⟨b, o, none⟩ := by
  obtain ⟨b, o, hA, _⟩ := h.plain (List.length_pos_of_mem (List.mem_flatMap.2 ⟨a, ha, List.getElem_mem hp⟩))
  exact ⟨b, o, hA⟩
/-- Old memory is read, whatever one's own things come to. -/
theorem Mem.old {w0 w w' : World} {rs : List Res} {r : Res} {i : Nat} {A : Option Addr} {xs : List Value} (M : Mem w0 w nof rs) (hi : rs[i]? = some r) (h : Rd w0 A xs) (K : Keep (· ∈ r.fp) w w') : Rd w' A xs := fun j u hj => by
  obtain ⟨a, ha, hc⟩ := h j u hj
  refine ⟨a, ha, K.cell (M.keep.cell hc fun f => f) fun hm => ?_⟩
  have hlt := World.block_lt_of_cell? w0 _ hc
  rcases M.own r (List.mem_of_getElem? hi) _ hm with h1 | h1
  · omega
  · exact h1
/-- The struct and its row, apart; and together again. -/
theorem Mem.open1 {w0 w : World} {F : Nat → Prop} {rs : List Res} {g : Nat} {l : Value → List Value} {e : TypeId} {v : Value} {e' : TypeId} {sz n : Nat} {xs : List Value} (M : Mem w0 w F (box1 g l e v e' sz n xs :: rs)) :
    Mem w0 w F (blk g (l v) e :: row v e' sz n xs :: rs) := by
  have h : (box1 g l e v e' sz n xs).sat w := M.sat _ (by simp)
  refine ⟨M.keep, fun r hr => ?_, fun r hr b hb => ?_, ?_⟩
  · rcases List.mem_cons.1 hr with rfl | hr
    · exact h.1
    · rcases List.mem_cons.1 hr with rfl | hr
      · exact h.2.1
      · exact M.sat r (by simp [hr])
  · rcases List.mem_cons.1 hr with rfl | hr
    · exact M.own _ (List.mem_cons_self ..) b (by simp [blk] at hb; simp [box1, hb])
    · rcases List.mem_cons.1 hr with rfl | hr
      · exact M.own _ (List.mem_cons_self ..) b (by simp [row] at hb; simp [box1, hb])
      · exact M.own r (by simp [hr]) b hb
  · have hd := List.pairwise_cons.1 M.dis
    refine List.pairwise_cons.2 ⟨fun s hs b hb => ?_, List.pairwise_cons.2 ⟨fun s hs b hb => ?_, hd.2⟩⟩
    · have hb' : b = g := by simpa [blk] using hb
      subst hb'
      rcases List.mem_cons.1 hs with rfl | hs
      · intro hm; exact h.2.2 (by simpa [row] using hm)
      · exact hd.1 s hs b (by simp [box1])
    · exact hd.1 s hs b (by simp [row] at hb; simp [box1, hb])
theorem Mem.close1 {w0 w : World} {F : Nat → Prop} {rs : List Res} {g : Nat} (l : Value → List Value) {e : TypeId} {v : Value} {e' : TypeId} {sz n : Nat} {xs : List Value} (M : Mem w0 w F (blk g (l v) e :: row v e' sz n xs :: rs)) :
    Mem w0 w F (box1 g l e v e' sz n xs :: rs) := by
  have h1 : (blk g (l v) e).sat w := M.sat _ (by simp)
  have h2 : (row v e' sz n xs).sat w := M.sat _ (by simp)
  have hd := List.pairwise_cons.1 M.dis
  have hd2 := List.pairwise_cons.1 hd.2
  have hne : v.ownBlock ≠ some g := fun e => hd.1 _ (List.mem_cons_self ..) g (by simp [blk]) (by simp [row, e])
  refine ⟨M.keep, fun r hr => ?_, fun r hr b hb => ?_, List.pairwise_cons.2 ⟨fun s hs b hb => ?_, hd2.2⟩⟩
  · rcases List.mem_cons.1 hr with rfl | hr
    · exact ⟨h1, h2, hne⟩
    · exact M.sat r (by simp [hr])
  · rcases List.mem_cons.1 hr with rfl | hr
    · rcases List.mem_cons.1 hb with rfl | hb
      · exact M.own _ (List.mem_cons_self ..) _ (by simp [blk])
      · exact M.own (row v e' sz n xs) (by simp) b (by simpa [row] using hb)
    · exact M.own r (by simp [hr]) b hb
  · rcases List.mem_cons.1 hb with rfl | hb
    · exact hd.1 s (by simp [hs]) _ (by simp [blk])
    · exact hd2.1 s hs b (by simpa [row] using hb)

/-! ### Bytes -/
def byteV (b : UInt8) : Value := .int .u8 (b.toNat : Int)
def bytesV (l : List UInt8) : List Value := l.map byteV
@[simp] theorem bytesV_length (l : List UInt8) : (bytesV l).length = l.length := by simp [bytesV]
theorem bytesV_append (l m : List UInt8) : bytesV (l ++ m) = bytesV l ++ bytesV m := by simp [bytesV]
theorem bytesV_get {l : List UInt8} {j : Nat} {b : UInt8} (h : l[j]? = some b) : (bytesV l)[j]? = some (byteV b) := by simp [bytesV, h]
theorem bytesV_one (l : List UInt8) : ∀ u ∈ bytesV l, u.oneCell' = true := by
  intro u hu
  obtain ⟨b, _, rfl⟩ := List.mem_map.1 hu
  rfl

/-! ### A reader: a slice of bytes that are only read, and a number -/
def rbx (g : Nat) (e : TypeId) (D : List Nat) (l : List UInt8) (x : Value) : Res where
  fp := g :: D
  sat w := ∃ A c, w.heap[g]? = some (.cells #[.slice A l.length c, x] e (0, 0)) ∧ l.length ≤ c ∧ Rd w A (bytesV l) ∧ (∀ a, A = some a → l ≠ [] → a.block ∈ D) ∧ ∀ b ∈ D, b < w.heap.size ∧ b ≠ g
  lt w h b hb := by
    obtain ⟨A, c, h1, h2, h3, h4, h5⟩ := h
    rcases List.mem_cons.1 hb with rfl | hb
    · exact lt_of_heap h1
    · exact (h5 b hb).1
  loc w w' h hk := by
    obtain ⟨A, c, h1, h2, h3, h4, h5⟩ := h
    refine ⟨A, c, by rw [hk g (by simp)]; exact h1, h2, ?_, h4, fun b hb => ⟨?_, (h5 b hb).2⟩⟩
    · intro j u hj
      obtain ⟨a, ha, hc⟩ := h3 j u hj
      refine ⟨a, ha, (World.cell?_of_block (hk _ ?_)).trans hc⟩
      rw [block_add]
      exact List.mem_cons_of_mem _ (h4 a ha fun e => by subst e; simp [bytesV] at hj)
    · have := (h5 b hb).1
      have h6 := hk b (by simp [hb])
      rw [Array.getElem?_eq_getElem this] at h6
      exact lt_of_heap h6
/-- What a reader reads. -/
def dat (D : List Nat) (A : Option Addr) (l : List UInt8) : Res where
  fp := D
  sat w := Rd w A (bytesV l) ∧ (∀ a, A = some a → l ≠ [] → a.block ∈ D) ∧ ∀ b ∈ D, b < w.heap.size
  lt w h b hb := h.2.2 b hb
  loc w w' h hk := by
    obtain ⟨h3, h4, h5⟩ := h
    refine ⟨fun j u hj => ?_, h4, fun b hb => ?_⟩
    · obtain ⟨a, ha, hc⟩ := h3 j u hj
      refine ⟨a, ha, (World.cell?_of_block (hk _ ?_)).trans hc⟩
      rw [block_add]
      exact h4 a ha fun e => by subst e; simp [bytesV] at hj
    · have := h5 b hb
      have h6 := hk b hb
      rw [Array.getElem?_eq_getElem this] at h6
      exact lt_of_heap h6
theorem Mem.openR {w0 w : World} {F : Nat → Prop} {rs : List Res} {g : Nat} {e : TypeId} {D : List Nat} {l : List UInt8} {x : Value} (M : Mem w0 w F (rbx g e D l x :: rs)) :
    ∃ A c, l.length ≤ c ∧ Mem w0 w F (blk g [.slice A l.length c, x] e :: dat D A l :: rs) := by
  obtain ⟨A, c, h1, h2, h3, h4, h5⟩ := M.sat (rbx g e D l x) (by simp)
  have hd := List.pairwise_cons.1 M.dis
  refine ⟨A, c, h2, M.keep, fun r hr => ?_, fun r hr b hb => ?_, ?_⟩
  · rcases List.mem_cons.1 hr with rfl | hr
    · exact h1
    · rcases List.mem_cons.1 hr with rfl | hr
      · exact ⟨h3, h4, fun b hb => (h5 b hb).1⟩
      · exact M.sat r (by simp [hr])
  · rcases List.mem_cons.1 hr with rfl | hr
    · exact M.own _ (List.mem_cons_self ..) b (by simp [blk] at hb; simp [rbx, hb])
    · rcases List.mem_cons.1 hr with rfl | hr
      · exact M.own _ (List.mem_cons_self ..) b (by simp [dat] at hb; simp [rbx, hb])
      · exact M.own r (by simp [hr]) b hb
  · refine List.pairwise_cons.2 ⟨fun s hs b hb => ?_, List.pairwise_cons.2 ⟨fun s hs b hb => ?_, hd.2⟩⟩
    · have hb' : b = g := by simpa [blk] using hb
      subst hb'
      rcases List.mem_cons.1 hs with rfl | hs
      · intro hm; exact (h5 b hm).2 rfl
      · exact hd.1 s hs b (by simp [rbx])
    · exact hd.1 s hs b (by simp [dat] at hb; simp [rbx, hb])
theorem Mem.closeR {w0 w : World} {F : Nat → Prop} {rs : List Res} {g c : Nat} {e : TypeId} {D : List Nat} {A : Option Addr} {l : List UInt8} {x : Value} (M : Mem w0 w F (blk g [.slice A l.length c, x] e :: dat D A l :: rs)) (hc : l.length ≤ c) :
    Mem w0 w F (rbx g e D l x :: rs) := by
  have h1 : (blk g [.slice A l.length c, x] e).sat w := M.sat _ (by simp)
  have h2 : (dat D A l).sat w := M.sat _ (by simp)
  have hd := List.pairwise_cons.1 M.dis
  have hd2 := List.pairwise_cons.1 hd.2
  have hne : g ∉ D := fun hm => hd.1 (dat D A l) (List.mem_cons_self ..) g (by simp [blk]) (by simpa [dat] using hm)
  refine ⟨M.keep, fun r hr => ?_, fun r hr b hb => ?_, List.pairwise_cons.2 ⟨fun s hs b hb => ?_, hd2.2⟩⟩
  · rcases List.mem_cons.1 hr with rfl | hr
    · exact ⟨A, c, h1, hc, h2.1, h2.2.1, fun b hb => ⟨h2.2.2 b hb, fun e => hne (e ▸ hb)⟩⟩
    · exact M.sat r (by simp [hr])
  · rcases List.mem_cons.1 hr with rfl | hr
    · rcases List.mem_cons.1 hb with rfl | hb
      · exact M.own _ (List.mem_cons_self ..) _ (by simp [blk])
      · exact M.own (dat D A l) (by simp) b (by simpa [dat] using hb)
    · exact M.own r (by simp [hr]) b hb
  · rcases List.mem_cons.1 hb with rfl | hb
    · exact hd.1 s (by simp [hs]) _ (by simp [blk])
    · exact hd2.1 s hs b (by simpa [dat] using hb)
/-- A row of bytes that nothing will write again. -/
theorem dat_of_row {w : World} {A : Option Addr} {e : TypeId} {n c : Nat} {l : List UInt8} (h : (row (.slice A n c) e 1 n (bytesV l)).sat w) : (dat (Value.slice A n c).ownBlock.toList A l).sat w ∧ n = l.length ∧ n ≤ c := by
  have hl := h.1
  simp only [bytesV_length, Nat.mul_one] at hl
  refine ⟨⟨rd_of_own h, fun a ha hne => ?_, fun b hb => (h.lt b (by simpa using hb)).2⟩, hl.symm, ?_⟩
  · rcases h.2 with ⟨hv, hn⟩ | ⟨g, cap, cur, hv, _⟩
    · exfalso; apply hne; apply List.eq_nil_of_length_eq_zero; omega
    · injection hv with h1 h2 h3
      subst h1
      injection ha with ha
      subst ha
      simp [Value.ownBlock]
  · rcases h.2 with ⟨hv, hn⟩ | ⟨g, cap, cur, hv, hb, hg, rest⟩
    · omega
    · injection hv with h1 h2 h3
      omega
theorem Mem.view {w0 w : World} {F : Nat → Prop} {rs : List Res} {r r' : Res} (M : Mem w0 w F rs) {i : Nat} (hi : rs[i]? = some r) (hs : r.sat w → r'.sat w) (hf : ∀ b ∈ r'.fp, b ∈ r.fp) : Mem w0 w F (rs.set i r') :=
  M.turn hi (Keep.refl _ _) (hs (M.get hi)) fun b hb => .inl (hf b hb)

/-! ### Operations that read -/
section
variable {P : Program} {n : Nat} {env : Env} {w : World} {dst : Option Tmp} {ty : TypeId} {pos : String} {aft : Array Edge} {g : Option (Nat × Bool)}

/-- A type's size, and whether its values are rows of cells. -/
def Ty (P : Program) (t : TypeId) (sz : Nat) (agg : Bool) : Prop :=
  (P.info? t).map (·.size) = some sz ∧ (P.underlying t).map (fun d => match d with | .struct _ => true | .array _ _ => true | _ => false) = some agg
theorem run_sizeOf {t : TypeId} {sz : Nat} (h : (P.info? t).map (·.size) = some sz) (w : World) : (sizeOf t).run P w = .ok sz w := by
  obtain ⟨i, hi, hs⟩ := Option.map_eq_some_iff.1 h
  simp [sizeOf, typeInfo, hi, hs]
theorem run_isAgg {t : TypeId} {b : Bool} (h : (P.underlying t).map (fun d => match d with | .struct _ => true | .array _ _ => true | _ => false) = some b) (w : World) : (isAgg t).run P w = .ok b w := by
  obtain ⟨d, hd, hb⟩ := Option.map_eq_some_iff.1 h
  subst hb
  simp only [isAgg, Sem.run_bind, run_underlying hd, Result.andThen_ok]
  cases d <;> rfl
theorem run_loadVar1 {t : TypeId} (ht : Ty P t 1 false) {a : Addr} {v : Value} (hc : w.cell? a = some v) : (loadVar t a).run P w = .ok v w := by
  simp [loadVar, run_isAgg ht.2, hc]
theorem run_loadVarA {t : TypeId} {sz : Nat} (ht : Ty P t sz true) {a : Addr} {l : List Value} (hl : l.length = sz) (hc : Rd w (some a) l) : (loadVar t a).run P w = .ok (.agg l.toArray) w := by
  have h := run_loadCells_list (P := P) w a l (fun j v hj => by obtain ⟨a', e, h⟩ := hc j v hj; injection e with e; subst e; exact h)
  rw [hl] at h
  simp [loadVar, run_isAgg ht.2, run_sizeOf ht.1, h]
theorem Ex.load {t : TypeId} {x : Operand} {a : Addr} {v : Value} (ht : Ty P t 1 false) (hx : ev env x = some (.pointer (some a))) (hc : w.cell? a = some v) : Ex P n env (Oper.mk dst (.load t x) ty pos aft g) v w := fun A ha => by
  simp [execOp, ha.eval hx, Instr.loadAt, Instr.sureAddr, run_loadVar1 ht hc]
theorem Ex.loadA {t : TypeId} {sz : Nat} {x : Operand} {a : Addr} {l : List Value} (ht : Ty P t sz true) (hx : ev env x = some (.pointer (some a))) (hl : l.length = sz) (hc : Rd w (some a) l) : Ex P n env (Oper.mk dst (.load t x) ty pos aft g) (.agg l.toArray) w := fun A ha => by
  simp [execOp, ha.eval hx, Instr.loadAt, Instr.sureAddr, run_loadVarA ht hl hc]
/-- The place of a field: a closed fact of the type. -/
def Fld (P : Program) (s : TypeId) (f off : Nat) : Prop := ∃ fs fd, P.underlying s = some (.struct fs) ∧ fs[f]? = some fd ∧ fd.offset = off ∧ ((P.info? fd.type).map fun i => i.size == 0) = some false
theorem Ex.fa {s : TypeId} {x : Operand} {b o f off : Nat} (hf : Fld P s f off) (hx : ev env x = some (.pointer (some ⟨b, o, none⟩))) : Ex P n env (Oper.mk dst (.fieldAddr s x f) ty pos aft g) (.pointer (some ⟨b, o + off, none⟩)) w := fun a ha => by
  obtain ⟨fs, fd, h1, h2, h3, h4⟩ := hf
  obtain ⟨i, hi, hs⟩ := Option.map_eq_some_iff.1 h4
  have hs' : i.size ≠ 0 := by simpa using hs
  subst h3
  simp [execOp, ha.eval hx, Instr.fieldAt, run_underlying h1, h2, Instr.sureAddr, fieldPlace, sizeOf, typeInfo, hi, hs', add0]
theorem Ex.fd {s : TypeId} {x : Operand} {f off : Nat} {l : List Value} {v : Value} (hf : ∃ fs fd, P.underlying s = some (.struct fs) ∧ fs[f]? = some fd ∧ fd.offset = off ∧ Ty P fd.type 1 false) (hx : ev env x = some (.agg l.toArray)) (hv : l[off]? = some v) :
    Ex P n env (Oper.mk dst (.field s x f) ty pos aft g) v w := fun a ha => by
  obtain ⟨fs, fd, h1, h2, h3, h4⟩ := hf
  subst h3
  simp [execOp, ha.eval hx, Instr.field, run_underlying h1, h2, asAgg, part, run_isAgg h4.2, hv]
theorem Ex.fdA {s : TypeId} {x : Operand} {f off sz : Nat} {l : List Value} (hf : ∃ fs fd, P.underlying s = some (.struct fs) ∧ fs[f]? = some fd ∧ fd.offset = off ∧ Ty P fd.type sz true) (hx : ev env x = some (.agg l.toArray)) {m : List Value} (hm : (l.drop off).take sz = m) :
    Ex P n env (Oper.mk dst (.field s x f) ty pos aft g) (.agg m.toArray) w := fun a ha => by
  obtain ⟨fs, fd, h1, h2, h3, h4⟩ := hf
  subst h3; subst hm
  have e : l.toArray.extract fd.offset (fd.offset + sz) = ((l.drop fd.offset).take sz).toArray := by
    apply Array.toList_inj.1
    simp [List.drop_take]
  simp [execOp, ha.eval hx, Instr.field, run_underlying h1, h2, asAgg, part, run_isAgg h4.2, run_sizeOf h4.1, e]
/-- An element of an array's value. -/
theorem Ex.ixA {t e : TypeId} {x i : Operand} {m : Nat} {k : IntKind} {j : Int} {l : List Value} {v : Value} (ht : P.underlying t = some (.array m e)) (he : Ty P e 1 false) (hx : ev env x = some (.agg l.toArray)) (hi : ev env i = some (.int k j)) (h0 : 0 ≤ j ∧ j < (m : Int)) (hv : l[j.toNat]? = some v) :
    Ex P n env (Oper.mk dst (.index t x i) ty pos aft g) v w := fun a ha => by
  simp [execOp, ha.eval hx, ha.eval hi, Instr.index, asIntOf, run_underlying ht, run_sizeOf he.1, part, run_isAgg he.2, h0, hv]
theorem Ex.ixAA {t e : TypeId} {x i : Operand} {m sz : Nat} {k : IntKind} {j : Int} {l : List Value} (ht : P.underlying t = some (.array m e)) (he : Ty P e sz true) (hx : ev env x = some (.agg l.toArray)) (hi : ev env i = some (.int k j)) (h0 : 0 ≤ j ∧ j < (m : Int))
    {r : List Value} (hr : (l.drop (j.toNat * sz)).take sz = r) : Ex P n env (Oper.mk dst (.index t x i) ty pos aft g) (.agg r.toArray) w := fun a ha => by
  subst hr
  have e : l.toArray.extract (j.toNat * sz) (j.toNat * sz + sz) = ((l.drop (j.toNat * sz)).take sz).toArray := by
    apply Array.toList_inj.1
    simp [List.drop_take]
  simp [execOp, ha.eval hx, ha.eval hi, Instr.index, asIntOf, run_underlying ht, run_sizeOf he.1, part, run_isAgg he.2, h0, e]
/-- The address of an element of a slice, of an array behind an address. -/
theorem Ex.ia {t e : TypeId} {x i : Operand} {b o l c sz : Nat} {k : IntKind} {j : Int} (ht : P.underlying t = some (.slice e)) (he : (P.info? e).map (·.size) = some sz) (hx : ev env x = some (.slice (some ⟨b, o, none⟩) l c)) (hi : ev env i = some (.int k j)) (h0 : 0 ≤ j ∧ j < (l : Int)) :
    Ex P n env (Oper.mk dst (.indexAddr t x i) ty pos aft g) (.pointer (some ⟨b, o + j.toNat * sz, none⟩)) w := fun a ha => by
  simp [execOp, ha.eval hx, ha.eval hi, Instr.indexAt, asIntOf, run_underlying ht, run_sizeOf he, h0, add0]
theorem Ex.iaA {t e : TypeId} {x i : Operand} {b o m sz : Nat} {k : IntKind} {j : Int} (ht : P.underlying t = some (.array m e)) (he : (P.info? e).map (·.size) = some sz) (hx : ev env x = some (.pointer (some ⟨b, o, none⟩))) (hi : ev env i = some (.int k j)) (h0 : 0 ≤ j ∧ j < (m : Int)) :
    Ex P n env (Oper.mk dst (.indexAddr t x i) ty pos aft g) (.pointer (some ⟨b, o + j.toNat * sz, none⟩)) w := fun a ha => by
  simp [execOp, ha.eval hx, ha.eval hi, Instr.indexAt, Instr.sureAddr, asIntOf, run_underlying ht, run_sizeOf he, h0, add0]
/-- Cuts. -/
theorem Ex.slA {t e : TypeId} {x : Operand} {p : Addr} {m sz : Nat} (ht : P.underlying t = some (.array m e)) (he : (P.info? e).map (·.size) = some sz) (hx : ev env x = some (.pointer (some p))) :
    Ex P n env (Oper.mk dst (.slice t x none none none) ty pos aft g) (.slice (some p) m m) w := fun a ha => by
  have h0 : p.add 0 = p := by simp [Addr.add]
  simp [execOp, ha.eval hx, Instr.sliceAt, run_underlying ht, Instr.sureAddr, Instr.sliceBounds, run_sizeOf he, h0]
theorem run_bound {k : IntKind} {j : Int} {y : Nat} {c : BoundsCode} (h0 : 0 ≤ j) (h1 : j ≤ y) (w : World) : (Instr.sliceBound (.int k j) y c).run P w = .ok j.toNat w := by
  simp [Instr.sliceBound, asIntOf, h0, h1]
theorem Ex.slAl {t e : TypeId} {x y : Operand} {b o m sz : Nat} {k : IntKind} {j : Int} (ht : P.underlying t = some (.array m e)) (he : (P.info? e).map (·.size) = some sz) (hx : ev env x = some (.pointer (some ⟨b, o, none⟩))) (hy : ev env y = some (.int k j)) (h0 : 0 ≤ j) (h1 : j < m) :
    Ex P n env (Oper.mk dst (.slice t x (some y) none none) ty pos aft g) (.slice (some ⟨b, o + j.toNat * sz, none⟩) (m - j.toNat) (m - j.toNat)) w := fun a ha => by
  have hne : ¬ m = j.toNat := by omega
  simp [execOp, ha.eval hx, ha.eval hy, Instr.sliceAt, run_underlying ht, Instr.sureAddr, Instr.sliceBounds, run_bound h0 (Int.le_of_lt h1), run_sizeOf he, hne, add0]
theorem Ex.slAh {t e : TypeId} {x y : Operand} {b o m sz : Nat} {k : IntKind} {j : Int} (ht : P.underlying t = some (.array m e)) (he : (P.info? e).map (·.size) = some sz) (hx : ev env x = some (.pointer (some ⟨b, o, none⟩))) (hy : ev env y = some (.int k j)) (h0 : 0 ≤ j) (h1 : j ≤ m) :
    Ex P n env (Oper.mk dst (.slice t x none (some y) none) ty pos aft g) (.slice (some ⟨b, o, none⟩) j.toNat m) w := fun a ha => by
  simp [execOp, ha.eval hx, ha.eval hy, Instr.sliceAt, run_underlying ht, Instr.sureAddr, Instr.sliceBounds, run_bound h0 h1, run_sizeOf he, add0]
theorem Ex.sll {t e : TypeId} {x y : Operand} {A : Option Addr} {l c sz : Nat} {k : IntKind} {j : Int} (ht : P.underlying t = some (.slice e)) (he : (P.info? e).map (·.size) = some sz) (hx : ev env x = some (.slice A l c)) (hy : ev env y = some (.int k j)) (h0 : 0 ≤ j) (h1 : j ≤ l) :
    Ex P n env (Oper.mk dst (.slice t x (some y) none none) ty pos aft g) (.slice (if c = j.toNat then A else A.map (·.add (j.toNat * sz))) (l - j.toNat) (c - j.toNat)) w := fun a ha => by
  simp [execOp, ha.eval hx, ha.eval hy, Instr.sliceAt, Instr.slice, run_underlying ht, Instr.sliceBounds, run_bound h0 h1, run_sizeOf he]
theorem Ex.slh {t e : TypeId} {x y : Operand} {A : Option Addr} {l c sz : Nat} {k : IntKind} {j : Int} (ht : P.underlying t = some (.slice e)) (he : (P.info? e).map (·.size) = some sz) (hx : ev env x = some (.slice A l c)) (hy : ev env y = some (.int k j)) (h0 : 0 ≤ j) (h1 : j ≤ c) :
    Ex P n env (Oper.mk dst (.slice t x none (some y) none) ty pos aft g) (.slice A j.toNat c) w := fun a ha => by
  have e : (if c = 0 then A else A.map (·.add (0 * sz))) = A := by
    split
    · rfl
    · cases A <;> simp [Addr.add]
  simp [execOp, ha.eval hx, ha.eval hy, Instr.sliceAt, Instr.slice, run_underlying ht, Instr.sliceBounds, run_bound h0 h1, run_sizeOf he]
  simpa using e
theorem Ex.sllh {t e : TypeId} {x y z : Operand} {A : Option Addr} {l c sz : Nat} {k k' : IntKind} {i j : Int} (ht : P.underlying t = some (.slice e)) (he : (P.info? e).map (·.size) = some sz) (hx : ev env x = some (.slice A l c)) (hy : ev env y = some (.int k i)) (hz : ev env z = some (.int k' j)) (h0 : 0 ≤ i) (h1 : i ≤ j) (h2 : j ≤ c) :
    Ex P n env (Oper.mk dst (.slice t x (some y) (some z) none) ty pos aft g) (.slice (if c = i.toNat then A else A.map (·.add (i.toNat * sz))) (j.toNat - i.toNat) (c - i.toNat)) w := fun a ha => by
  have h3 : i ≤ (j.toNat : Int) := by omega
  simp [execOp, ha.eval hx, ha.eval hy, ha.eval hz, Instr.sliceAt, Instr.slice, run_underlying ht, Instr.sliceBounds, run_bound (Int.le_trans h0 h1) h2, run_bound h0 h3, run_sizeOf he]
/-- s[:0:0]. -/
theorem Ex.sl00 {t e : TypeId} {x y z : Operand} {A : Option Addr} {l c sz : Nat} {k k' : IntKind} (ht : P.underlying t = some (.slice e)) (he : (P.info? e).map (·.size) = some sz) (hx : ev env x = some (.slice A l c)) (hy : ev env y = some (.int k 0)) (hz : ev env z = some (.int k' 0)) :
    Ex P n env (Oper.mk dst (.slice t x none (some y) (some z)) ty pos aft g) (.slice A 0 0) w := fun a ha => by
  have h := fun y c => run_bound (P := P) (k := k) (j := 0) (y := y) (c := c) (Int.le_refl 0) (by omega) w
  have h' := fun y c => run_bound (P := P) (k := k') (j := 0) (y := y) (c := c) (Int.le_refl 0) (by omega) w
  simp [execOp, ha.eval hx, ha.eval hy, ha.eval hz, Instr.sliceAt, Instr.slice, run_underlying ht, Instr.sliceBounds, h, h', run_sizeOf he]
theorem extract_mk (l : List UInt8) (i j : Nat) (h : j ≤ l.length) : (ByteArray.mk l.toArray).extract i j = ByteArray.mk ((l.take j).drop i).toArray := by
  apply ByteArray.ext
  apply Array.toList_inj.1
  simp [ByteArray.data_extract, List.drop_take]
theorem Ex.slS {t : TypeId} {x y z : Operand} {l : List UInt8} {k k' : IntKind} {i j : Int} (ht : P.underlying t = some .string) (hx : ev env x = some (str l)) (hy : ev env y = some (.int k i)) (hz : ev env z = some (.int k' j)) (h0 : 0 ≤ i) (h1 : i ≤ j) (h2 : j ≤ l.length) :
    Ex P n env (Oper.mk dst (.slice t x (some y) (some z) none) ty pos aft g) (str ((l.take j.toNat).drop i.toNat)) w := fun a ha => by
  have h3 : i ≤ (j.toNat : Int) := by omega
  have h4 : j ≤ ((ByteArray.mk l.toArray).size : Int) := by simpa [ByteArray.size] using h2
  have e := extract_mk l i.toNat j.toNat (by omega)
  have hx' := ha.eval hx
  unfold str at hx'
  simp [execOp, hx', ha.eval hy, ha.eval hz, Instr.sliceAt, Instr.slice, run_underlying ht, Instr.sliceBounds, run_bound (Int.le_trans h0 h1) h4, run_bound h0 h3, e, str]
theorem Ex.slSl {t : TypeId} {x y : Operand} {l : List UInt8} {k : IntKind} {i : Int} (ht : P.underlying t = some .string) (hx : ev env x = some (str l)) (hy : ev env y = some (.int k i)) (h0 : 0 ≤ i) (h2 : i ≤ l.length) :
    Ex P n env (Oper.mk dst (.slice t x (some y) none none) ty pos aft g) (str (l.drop i.toNat)) w := fun a ha => by
  have h4 : i ≤ ((ByteArray.mk l.toArray).size : Int) := by simpa [ByteArray.size] using h2
  have e := extract_mk l i.toNat l.length (Nat.le_refl _)
  rw [List.take_length] at e
  have e' : (ByteArray.mk l.toArray).size = l.length := by simp [ByteArray.size]
  rw [← e'] at e
  have hx' := ha.eval hx
  unfold str at hx'
  simp only [execOp, hx', ha.eval hy, Instr.sliceAt, Sem.run_bind, run_underlying ht, Result.andThen_ok, Option.map_some, Option.map_none, Instr.slice, Option.isSome_none, Bool.false_eq_true, if_false, Instr.sliceBounds, Sem.run_pure, run_bound h0 h4, e, str]
theorem Ex.slSh {t : TypeId} {x z : Operand} {l : List UInt8} {k : IntKind} {j : Int} (ht : P.underlying t = some .string) (hx : ev env x = some (str l)) (hz : ev env z = some (.int k j)) (h0 : 0 ≤ j) (h2 : j ≤ l.length) :
    Ex P n env (Oper.mk dst (.slice t x none (some z) none) ty pos aft g) (str (l.take j.toNat)) w := fun a ha => by
  have h4 : j ≤ ((ByteArray.mk l.toArray).size : Int) := by simpa [ByteArray.size] using h2
  have e := extract_mk l 0 j.toNat (by omega)
  rw [List.drop_zero] at e
  have hx' := ha.eval hx
  unfold str at hx'
  simp [execOp, hx', ha.eval hz, Instr.sliceAt, Instr.slice, run_underlying ht, Instr.sliceBounds, run_bound h0 h4, e, str]
/-- Bytes as a string. -/
theorem Ex.cvBS {s t e : TypeId} {x : Operand} {A : Option Addr} {c : Nat} {l : List UInt8} (hs : P.underlying s = some (.slice e)) (he : P.underlying e = some (.int .u8)) (ht : P.underlying t = some .string) (hx : ev env x = some (.slice A l.length c)) (hr : Rd w A (bytesV l)) :
    Ex P n env (Oper.mk dst (.convert s t x) ty pos aft g) (str l) w := fun a ha => by
  have key : (convert s t (.slice A l.length c)).run P w = .ok (str l) w := by
    rcases Nat.eq_zero_or_pos l.length with h0 | h0
    · have : l = [] := List.eq_nil_of_length_eq_zero h0
      subst this
      cases A with
      | none => exact run_convert_bytes_nil w s e hs he _ _ t ht
      | some b =>
        simp [convert, run_underlying hs, run_underlying ht, run_underlying he, Conv.bytesToString, loadCells, loadCellsFrom, str]
        rfl
    · obtain ⟨b, o, rfl, hlt, hc⟩ := hr.plain (by simpa using h0)
      have h := run_convert_bytes_arg (P := P) w s e hs he b o l.length c (l.map fun b => (b.toNat : Int)) (by simp) (fun i hi => ?_) t ht
      · have e2 : strOfNums (l.map fun b => (b.toNat : Int)) = ⟨l.toArray⟩ := by
          have h1 := strOfNums_data (l.map fun b => (b.toNat : Int))
          have h2 : (strOfNums (l.map fun b => (b.toNat : Int))).data = l.toArray := by
            apply Array.toList_inj.1
            rw [h1, List.map_map]
            conv => rhs; rw [← List.map_id l]
            exact List.map_congr_left fun b _ => by simp
          cases hh : strOfNums (l.map fun b => (b.toNat : Int)) with
          | mk d => rw [hh] at h2; simp at h2; simp [h2]
        rw [h, e2]; rfl
      · rw [hc i (.int .u8 ((l.map fun b => (b.toNat : Int)).getD i 0))]
        have hi' : i < l.length := by simpa using hi
        simp [bytesV, byteV, hi']
  simp [execOp, ha.eval hx, key]
theorem Ex.cvBSn {s t e : TypeId} {x : Operand} {A : Option Addr} {m c : Nat} {l : List UInt8} (hs : P.underlying s = some (.slice e)) (he : P.underlying e = some (.int .u8)) (ht : P.underlying t = some .string) (hx : ev env x = some (.slice A m c)) (hm : m = l.length) (hr : Rd w A (bytesV l)) :
    Ex P n env (Oper.mk dst (.convert s t x) ty pos aft g) (str l) w := by
  subst hm
  exact Ex.cvBS hs he ht hx hr
end
end Go.Sx
