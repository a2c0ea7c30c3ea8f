/-
  A walk by small steps, part 4: the operations that make memory, write it, or call.
-/
import Derived.Test.YtchmjpdkonfifaaDoorSxc
import Derived.Laws.IdiomCopy
import Derived.OwnWalk
set_option linter.unusedVariables false
set_option linter.unusedSimpArgs false
namespace Go.Sx
open Go.RowKit

section
variable {P : Program} {n : Nat} {env : Env} {w w0 : World} {F : Nat → Prop} {rs : List Res} {dst : Option Tmp} {ty : TypeId} {pos : String} {aft : Array Edge} {g : Option (Nat × Bool)} {o : Oper} {b : Nat}

theorem Ac.of_run {R : Value → World → Prop} (h : ∀ a, Fit n env a → ∃ v w', (execOp a.eval o).run P w = .ok (.value v) w' ∧ R v w') : Ac P n env o w R := by
  intro a ha K Q hK
  obtain ⟨v, w', hr, r⟩ := h a ha
  unfold Oper.wp
  rw [hr, Oper.upon_value]
  exact hK _ _ r
theorem Ac.of_skip {R : Value → World → Prop} (h : ∀ a, Fit n env a → ∃ w', (execOp a.eval o).run P w = .ok .skip w' ∧ R undef w') : Ac P n env o w R := by
  intro a ha K Q hK
  obtain ⟨w', hr, r⟩ := h a ha
  unfold Oper.wp
  rw [hr, Oper.upon_skip]
  exact hK _ _ r

/-! ### New blocks -/
/-- What an append asks of the element's type. -/
def El (P : Program) (t e : TypeId) (sz bytes : Nat) : Prop := P.underlying t = some (.slice e) ∧ (P.info? e).map (fun i => (i.size, i.bytes, (i.zero.map (·.cells.size)))) = some (sz, bytes, some sz) ∧ 0 < sz

theorem blk_new (M : Mem w0 w F rs) (l : List Value) (e : TypeId) : Mem w0 (w.alloc (.cells l.toArray e)) F (blk w.heap.size l e :: rs) :=
  M.grow (Keep.alloc _ _ _) (heap_alloc_new w _) (by simp [blk])
theorem Ac.box (M : Mem w0 w F rs) {e : TypeId} {x : Operand} {v : Value} {l : List Value} (hx : ev env x = some v) (hl : v.cells = l.toArray) :
    Ac P n env (Oper.mk dst (.box e x) ty pos aft g) w fun u w' => ∃ b, u = .pointer (some ⟨b, 0, none⟩) ∧ w.heap.size ≤ b ∧ Keep nof w w' ∧ Mem w0 w' F (blk b l e :: rs) :=
  Ac.of_run fun a ha => ⟨.pointer (some ⟨w.heap.size, 0, none⟩), w.alloc (.cells l.toArray e), by
    simp [execOp, ha.eval hx, Instr.box, newVar, newRow, newObj, hl, Sem.run], _, rfl, Nat.le_refl _, Keep.alloc _ _ _, blk_new M l e⟩
theorem Ac.alloc (M : Mem w0 w F rs) {e : TypeId} {l : List Value} (hz : (P.info? e).bind (fun i => i.zero.map Value.cells) = some l.toArray) :
    Ac P n env (Oper.mk dst (.alloc e) ty pos aft g) w fun u w' => ∃ b, u = .pointer (some ⟨b, 0, none⟩) ∧ w.heap.size ≤ b ∧ Keep nof w w' ∧ Mem w0 w' F (blk b l e :: rs) :=
  Ac.of_run fun a ha => ⟨.pointer (some ⟨w.heap.size, 0, none⟩), w.alloc (.cells l.toArray e), by
    obtain ⟨i, hi, h2⟩ := Option.bind_eq_some_iff.1 hz
    obtain ⟨z, hz1, hz2⟩ := Option.map_eq_some_iff.1 h2
    simp [execOp, Instr.alloc, zeroValue, typeInfo, hi, hz1, newVar, newRow, newObj, hz2, Sem.run], _, rfl, Nat.le_refl _, Keep.alloc _ _ _, blk_new M l e⟩
/-- A literal slice: its cells are the parts, in order. -/
def LitS (P : Program) (t : TypeId) (len : Nat) (parts : List (Nat × Value)) (e : TypeId) (l : List Value) : Prop :=
  P.underlying t = some (.slice e) ∧ ∃ sz zs, (P.info? e).map (·.size) = some sz ∧ len * sz ≤ 16777216 ∧ (len * sz ≠ 0 → (P.info? e).bind (fun i => i.zero.map Value.cells) = some zs) ∧
    Instr.fill (fun i => some (i * sz, sz)) ((Array.range (len * sz)).map (zs[· % zs.size]!)) parts = some l.toArray
theorem LitS.nil {t e : TypeId} {sz : Nat} (ht : P.underlying t = some (.slice e)) (he : (P.info? e).map (·.size) = some sz) : LitS P t 0 [] e [] :=
  ⟨ht, sz, #[], he, by simp, by simp, by simp [Instr.fill]⟩
/-- One element of one cell. -/
theorem LitS.one {t e : TypeId} {v : Value} (he : El P t e 1 b) (h1 : v.cells = #[v]) : LitS P t 1 [(0, v)] e [v] := by
  obtain ⟨ht, h2, _⟩ := he
  obtain ⟨i, hi, hp⟩ := Option.map_eq_some_iff.1 h2
  simp only [Prod.mk.injEq] at hp
  obtain ⟨z, hz, hzs⟩ := Option.map_eq_some_iff.1 hp.2.2
  exact ⟨ht, 1, z.cells, by simp [hi, hp.1], by decide, fun _ => by simp [hi, hz], by
    have e : Array.map (z.cells[· % z.cells.size]!) (Array.range (1 * 1)) = #[z.cells[0 % z.cells.size]!] := by rw [show Array.range (1 * 1) = #[0] by decide]; simp
    rw [e]; simp [Instr.fill, h1]⟩
theorem run_buildSlice {t e : TypeId} {len : Nat} {parts : List (Nat × Value)} {l : List Value} (h : LitS P t len parts e l) (w : World) :
    (Instr.buildSlice t len parts.toArray).run P w = .ok (.slice (some ⟨w.heap.size, 0, none⟩) len len) (w.alloc (.cells l.toArray e)) := by
  obtain ⟨ht, sz, zs, hs, hle, hz, hf⟩ := h
  obtain ⟨i, hi, hsz⟩ := Option.map_eq_some_iff.1 hs
  by_cases h0 : len * sz = 0
  · have hf' : Instr.fill (fun i => some (i * sz, sz)) ((Array.range (len * sz)).map ((#[] : Array Value)[· % 0]!)) parts = some l.toArray := by
      have : Array.map (zs[· % zs.size]!) (Array.range (len * sz)) = Array.map ((#[] : Array Value)[· % 0]!) (Array.range (len * sz)) := by rw [h0]; simp
      rw [← this]; exact hf
    simp only [Instr.buildSlice, Sem.run_bind, run_underlying ht, Result.andThen_ok, run_sizeOf hs]
    rw [if_neg (by omega)]
    simp only [Sem.run_bind, Sem.run_pure, Result.andThen_ok, if_pos h0, Array.size_empty, hf']
    simp [newRow, newObj, Sem.run]
  · obtain ⟨i', hi', h2⟩ := Option.bind_eq_some_iff.1 (hz h0)
    obtain ⟨z, hz1, hz2⟩ := Option.map_eq_some_iff.1 h2
    simp only [Instr.buildSlice, Sem.run_bind, run_underlying ht, Result.andThen_ok, run_sizeOf hs]
    rw [if_neg (by omega)]
    simp only [Sem.run_bind, Sem.run_pure, Result.andThen_ok, if_neg h0, zeroValue, typeInfo, run_program, hi', hz1, hz2, hf]
    simp [newRow, newObj, Sem.run, hf]
theorem Ac.bs (M : Mem w0 w F rs) {t e : TypeId} {len : Nat} {parts : List (Nat × Operand)} {ps : List (Nat × Value)} {l : List Value} (hp : (parts.map (·.1)).zip ((evs env (parts.map (·.2))).getD []) = ps) (hs : (evs env (parts.map (·.2))).isSome = true)
    (h : LitS P t len ps e l) :
    Ac P n env (Oper.mk dst (.buildSlice t len parts.toArray) ty pos aft g) w fun u w' => ∃ b, u = .slice (some ⟨b, 0, none⟩) len len ∧ w.heap.size ≤ b ∧ Keep nof w w' ∧ Mem w0 w' F (blk b l e :: rs) :=
  Ac.of_run fun a ha => by
    obtain ⟨vs, hvs⟩ := Option.isSome_iff_exists.1 hs
    have h1 := ha.evals hvs
    have e1 : (parts.toArray.map fun (i, x) => (i, a.eval x)) = ps.toArray := by
      rw [← hp, hvs]
      simp only [Option.getD_some, ← h1]
      apply Array.toList_inj.1
      simp only [Array.toList_map, List.map_map]
      clear h1 hvs hs hp h
      induction parts with
      | nil => rfl
      | cons p r ih => simp [ih]
    refine ⟨_, _, ?_, _, rfl, Nat.le_refl _, Keep.alloc _ _ _, blk_new M l e⟩
    simp only [execOp, e1, Sem.run_bind, run_buildSlice h, Result.andThen_ok, Sem.run_pure]
/-- A literal slice of no elements: a row that grows. -/
theorem Ac.bs0 (M : Mem w0 w F rs) {t e : TypeId} {sz : Nat} (ht : P.underlying t = some (.slice e)) (he : (P.info? e).map (·.size) = some sz) :
    Ac P n env (Oper.mk dst (.buildSlice t 0 #[]) ty pos aft g) w fun u w' => ∃ b, u = .slice (some ⟨b, 0, none⟩) 0 0 ∧ w.heap.size ≤ b ∧ Keep nof w w' ∧ Mem w0 w' F (row (.slice (some ⟨b, 0, none⟩) 0 0) e sz 0 [] :: rs) :=
  Ac.of_run fun a ha => by
    refine ⟨_, _, ?_, w.heap.size, rfl, Nat.le_refl _, Keep.alloc _ _ _, M.grow (r := row (.slice (some ⟨w.heap.size, 0, none⟩) 0 0) e sz 0 []) (Keep.alloc _ _ (.cells ([] : List Value).toArray e)) ?_ (by simp [row, Value.ownBlock])⟩
    · have := run_buildSlice (LitS.nil ht he) w
      simp only [execOp, Sem.run_bind, Array.map_empty]
      rw [show (#[] : Array (Nat × Value)) = ([] : List (Nat × Value)).toArray from rfl, this]
      rfl
    · exact ⟨by simp, .inr ⟨w.heap.size, 0, _, rfl, Nat.zero_le _, heap_alloc_new w _, Nat.le_refl _, by simp [maxLen], by simp, by simp⟩⟩
/-- A literal slice, as a row that grows. -/
theorem own_blk {w : World} {b : Nat} {l : List Value} {e : TypeId} {sz m : Nat} (h : (blk b l e).sat w) (hl : l.length = m * sz) (hm : m ≤ maxLen) : (row (.slice (some ⟨b, 0, none⟩) m m) e sz m l).sat w :=
  ⟨hl, .inr ⟨b, m, l.toArray, rfl, Nat.zero_le _, h, Nat.le_refl _, hm, by simpa using hl, by simp [← hl]⟩⟩
theorem Mem.asRow (M : Mem w0 w F rs) {i b : Nat} {l : List Value} {e : TypeId} {sz m : Nat} (hi : rs[i]? = some (blk b l e)) (hl : l.length = m * sz) (hm : m ≤ maxLen) : Mem w0 w F (rs.set i (row (.slice (some ⟨b, 0, none⟩) m m) e sz m l)) :=
  M.turn hi (Keep.refl _ _) (own_blk (M.get hi) hl hm) (by simp [row, blk, Value.ownBlock])

/-! ### Stores -/
theorem keep_setCell {w : World} {b : Nat} (o : Nat) (v : Value) : Keep (· ∈ [b]) w (w.setCell ⟨b, o, none⟩ v) :=
  ⟨rfl, rfl, rfl, by simp, fun k _ hk => Below.heap_setCell _ _ _ _ (by simpa using hk)⟩
theorem blk_set {w : World} {b : Nat} {l : List Value} {e : TypeId} (h : (blk b l e).sat w) (o : Nat) (v : Value) : (blk b (l.set o v) e).sat (w.setCell ⟨b, o, none⟩ v) := by
  have h' : w.heap[b]? = some (.cells l.toArray e (0, 0)) := h
  show (w.setCell ⟨b, o, none⟩ v).heap[b]? = _
  simp [World.setCell, Array.getElem?_modify, h']
theorem Mem.set (M : Mem w0 w F rs) {i b : Nat} {l : List Value} {e : TypeId} (hi : rs[i]? = some (blk b l e)) (o : Nat) (v : Value) : Mem w0 (w.setCell ⟨b, o, none⟩ v) F (rs.set i (blk b (l.set o v) e)) :=
  M.turn hi (keep_setCell o v) (blk_set (M.get hi) o v) (by simp [blk])
theorem Ac.st (M : Mem w0 w F rs) {t : TypeId} {x y : Operand} {i b o : Nat} {l : List Value} {e : TypeId} {v : Value} (ht : Ty P t 1 false) (hx : ev env x = some (.pointer (some ⟨b, o, none⟩))) (hy : ev env y = some v) (h1 : v.oneCell' = true)
    (hi : rs[i]? = some (blk b l e)) (ho : o < l.length) :
    Ac P n env (Oper.mk dst (.store t x y) ty pos aft g) w fun _ w' => Keep (· ∈ [b]) w w' ∧ Mem w0 w' F (rs.set i (blk b (l.set o v) e)) :=
  Ac.of_skip fun a ha => ⟨w.setCell ⟨b, o, none⟩ v, by
    have hc : v.cells = #[v] := by cases v <;> first | rfl | simp [Value.oneCell'] at h1
    have hb := M.get hi
    have hb' : w.heap[b]? = some (.cells l.toArray e (0, 0)) := hb
    have h2 : w.cell? ⟨b, o, none⟩ = some (l[o]'ho) := M.cell hi (List.getElem?_eq_getElem ho)
    have h3 : w.frozen? ⟨b, o, none⟩ = false := frozen_of_row w b o _ e hb'
    have hadd : (⟨b, o, none⟩ : Addr).add 0 = ⟨b, o, none⟩ := by simp [Addr.add]
    simp [execOp, ha.eval hx, ha.eval hy, Instr.storeAt, Instr.sureAddr, storeVar, run_sizeOf ht.1, hc, storeCells, hadd, run_store P w _ v _ h1, h2, h3],
    keep_setCell o v, M.set hi o v⟩
def splice (l : List Value) (o : Nat) (vs : List Value) : List Value := l.take o ++ vs ++ l.drop (o + vs.length)
theorem splice_length {l vs : List Value} {o : Nat} (h : o + vs.length ≤ l.length) : (splice l o vs).length = l.length := by
  simp [splice]; omega
theorem keep_setRow {w : World} {b : Nat} (cs : Array Value) : Keep (· ∈ [b]) w (w.setRow b cs) :=
  ⟨rfl, rfl, rfl, by simp, fun k _ hk => setRow_other w b k _ (by simpa using hk)⟩
theorem Mem.setRow (M : Mem w0 w F rs) {i b : Nat} {l m : List Value} {e : TypeId} (hi : rs[i]? = some (blk b l e)) : Mem w0 (w.setRow b m.toArray) F (rs.set i (blk b m e)) :=
  M.turn hi (keep_setRow _) (setRow_heap w b _ _ e _ (M.get hi)) (by simp [blk])
theorem Ac.stA (M : Mem w0 w F rs) {t : TypeId} {sz : Nat} {agg : Bool} {x y : Operand} {i b o : Nat} {l : List Value} {e : TypeId} {v : Value} {vs : List Value} (ht : Ty P t sz agg) (hx : ev env x = some (.pointer (some ⟨b, o, none⟩))) (hy : ev env y = some v) (hv : v.cells = vs.toArray) (hl : vs.length = sz)
    (h1 : ∀ u ∈ vs, u.oneCell' = true) (hi : rs[i]? = some (blk b l e)) (ho : o + vs.length ≤ l.length) :
    Ac P n env (Oper.mk dst (.store t x y) ty pos aft g) w fun _ w' => Keep (· ∈ [b]) w w' ∧ Mem w0 w' F (rs.set i (blk b (splice l o vs) e)) :=
  Ac.of_skip fun a ha => ⟨w.setRow b (splice l o vs).toArray, by
    have hb' : w.heap[b]? = some (.cells l.toArray e (0, 0)) := M.get hi
    have h := run_storeCells_at P b o e vs 0 l.toArray w hb' (by simpa using ho) h1
    simp only [Nat.add_zero] at h
    simp [execOp, ha.eval hx, ha.eval hy, Instr.storeAt, Instr.sureAddr, storeVar, run_sizeOf ht.1, hv, hl, h, splice],
    keep_setRow _, M.setRow hi⟩

/-! ### Rows that grow -/
theorem run_app {t e : TypeId} {sz bytes : Nat} (h : El P t e sz bytes) (ty : TypeId) {w : World} {v : Value} {m : Nat} {xs : List Value} (hv : (row v e sz m xs).sat w) {A : Option Addr} {k c : Nat} {news : List Value} (hl : news.length = k * sz)
    (hr : Rd w A news) (h1 : ∀ u ∈ news, u.oneCell' = true) (hb : (m + k) * bytes ≤ 140737488355328) (h63 : m + k ≤ maxLen) :
    ∃ v' w', (Builtin.append_ #[t, t] ty #[v, .slice A k c]).run P w = .ok v' w' ∧ (row v' e sz (m + k) (xs ++ news)).sat w' ∧ Keep (· ∈ (row v e sz m xs).fp) w w' ∧ (∀ b ∈ (row v' e sz (m + k) (xs ++ news)).fp, b ∈ (row v e sz m xs).fp ∨ w.heap.size ≤ b) := by
  obtain ⟨ht, hi0, hsz⟩ := h
  obtain ⟨i, hi, hp⟩ := Option.map_eq_some_iff.1 hi0
  simp only [Prod.mk.injEq] at hp
  obtain ⟨hp1, hp2, hp3⟩ := hp
  obtain ⟨z, hz, hzs⟩ := Option.map_eq_some_iff.1 hp3
  cases A with
  | none =>
    have hn : news = [] := by
      cases news with
      | nil => rfl
      | cons u r => obtain ⟨a, ha, _⟩ := hr 0 u rfl; cases ha
    subst hn
    have hk : k = 0 := by
      rcases Nat.eq_zero_or_pos k with h | h
      · exact h
      · have := Nat.mul_pos h hsz; simp at hl; omega
    subst hk
    refine ⟨v, w, ?_, by simpa using hv, Keep.refl _ _, fun b hb => .inl (by simpa [row] using hb)⟩
    rcases hv.2 with ⟨rfl, rfl⟩ | ⟨b, cap, cur, rfl, _, _, hnc, _⟩
    · simp [Builtin.append_, run_underlying ht, sizeOf, typeInfo, hi, Builtin.lenOf, Builtin.firstCells]
    · simp [Builtin.append_, run_underlying ht, sizeOf, typeInfo, hi, Builtin.lenOf, Builtin.firstCells, hnc, storeCells]
  | some a =>
    obtain ⟨v', w', h2, h3, h4, h5, h6⟩ := run_append_own_at (P := P) w 0 t ty e i z sz bytes ht hi hz hp1 hp2 hzs hsz v m xs hv a k c news hl (fun j u hj => by obtain ⟨a', e, h⟩ := hr j u hj; injection e with e; subst e; exact h) h1 h63 hb (Nat.zero_le _)
    refine ⟨v', w', h2, h3, (Keep.grown h4).mono fun b _ hb => ?_, fun b hb => ?_⟩
    · have hb' : v.ownBlock = some b := hb.symm
      simp [row, hb']
    · have hb' : v'.ownBlock = some b := by simpa [row] using hb
      rcases h6 with h6 | h6
      · exact .inl (by simp [row, ← h6, hb'])
      · rw [hb'] at h6; injection h6 with h6; exact .inr (by omega)
theorem Ac.app (M : Mem w0 w F rs) {t e : TypeId} {sz bytes : Nat} (h : El P t e sz bytes) {s x : Operand} {i m k c : Nat} {v : Value} {A : Option Addr} {xs news : List Value} (hs : ev env s = some v) (hx : ev env x = some (.slice A k c))
    (hi : rs[i]? = some (row v e sz m xs)) (hl : news.length = k * sz) (hr : Rd w A news) (h1 : ∀ u ∈ news, u.oneCell' = true) (hb : (m + k) * bytes ≤ 140737488355328) (h63 : m + k ≤ maxLen) :
    Ac P n env (Oper.mk dst (.call { callee := .builtin .append, args := #[s, x], argTypes := #[t, t] }) ty pos aft g) w fun u w' => Keep (· ∈ (row v e sz m xs).fp) w w' ∧ Mem w0 w' F (rs.set i (row u e sz (m + k) (xs ++ news))) :=
  Ac.of_run fun a ha => by
    obtain ⟨v', w', h2, h3, h4, h5⟩ := run_app (c := c) h ty (M.get hi) hl hr h1 hb h63
    exact ⟨v', w', by simp [execOp, resolve, invoke, builtin, ha.eval hs, ha.eval hx, h2], h4, M.turn hi h4 h3 h5⟩
/-- append to a slice without room that is not the call's own (s[:0:0]): what comes back is new, or empty. -/
theorem Ac.appC (M : Mem w0 w F rs) {t e : TypeId} {sz bytes : Nat} (h : El P t e sz bytes) {s x : Operand} {k c : Nat} {B A : Option Addr} {news : List Value} (hs : ev env s = some (.slice B 0 0)) (hx : ev env x = some (.slice A k c))
    (hl : news.length = k * sz) (hr : Rd w A news) (h1 : ∀ u ∈ news, u.oneCell' = true) (hb : k * bytes ≤ 140737488355328) (h63 : k ≤ maxLen) (hk : 0 < k) :
    Ac P n env (Oper.mk dst (.call { callee := .builtin .append, args := #[s, x], argTypes := #[t, t] }) ty pos aft g) w fun u w' => ∃ b cp, u = .slice (some ⟨b, 0, none⟩) k cp ∧ w.heap.size ≤ b ∧ Keep nof w w' ∧ Mem w0 w' F (row u e sz k news :: rs) :=
  Ac.of_run fun a ha => by
    obtain ⟨ht, hi0, hsz⟩ := h
    obtain ⟨i, hi, hp⟩ := Option.map_eq_some_iff.1 hi0
    simp only [Prod.mk.injEq] at hp
    obtain ⟨hp1, hp2, hp3⟩ := hp
    obtain ⟨z, hz, hzs⟩ := Option.map_eq_some_iff.1 hp3
    obtain ⟨ad, rfl⟩ := hr.some_of (by rw [hl]; exact Nat.mul_pos hk hsz)
    have hc : ∀ j u, news[j]? = some u → w.cell? (ad.add j) = some u := fun j u hj => by obtain ⟨a', e, h⟩ := hr j u hj; injection e with e; subst e; exact h
    subst hp1; subst hp2
    simp only [maxLen] at h63
    have main : ∃ cp, (Builtin.append_ #[t, t] ty #[.slice B 0 0, .slice (some ad) k c]).run P w = .ok (.slice (some ⟨w.heap.size, 0, none⟩) k cp) (w.drew.alloc (.cells (news.toArray ++ Builtin.zeroCells z.cells (cp - k)) e)) ∧ k ≤ cp ∧ cp ≤ maxLen := by
      cases B with
      | none =>
        have hr := run_append_nil (P := P) w t ty e i z ht hi hz ad k c news hl hc (by omega) (by omega) (by omega)
        exact ⟨_, hr, grownCap_ge w k 0 e, grownCap_le_maxLen w k 0 e (by simp only [maxLen]; omega)⟩
      | some b0 =>
        have hr := run_append_grow (P := P) w t ty e i z ht hi hz b0 0 0 [] (by simp) (by simp) ad k c news hl hc (by omega) (by omega) (growslice_fits (by omega) (by simpa using hb))
        simp only [Nat.zero_add] at hr
        exact ⟨_, by simpa using hr, grownCap_ge w k 0 e, grownCap_le_maxLen w k 0 e (by simp only [maxLen]; omega)⟩
    obtain ⟨cp, hrun, hle, hcm⟩ := main
    refine ⟨_, _, by simp [execOp, resolve, invoke, builtin, ha.eval hs, ha.eval hx, hrun]; rfl, w.heap.size, cp, rfl, Nat.le_refl _, (Keep.drew _ _).trans (Keep.alloc _ _ _), ?_⟩
    refine M.grow ((Keep.drew _ _).trans (Keep.alloc _ _ _)) ⟨hl, .inr ⟨w.heap.size, cp, _, rfl, Nat.zero_le _, heap_alloc_new w.drew _, hle, hcm, ?_, ?_⟩⟩ (by simp [row, Value.ownBlock])
    · simp only [Array.size_append, List.size_toArray, size_zeroCells, hzs, hl, ← Nat.add_mul]
      congr 1; omega
    · rw [← hl]; simp
/-- A mark on the block (a conversion of bytes to themselves). -/
theorem Ac.cvm (M : Mem w0 w F rs) {t e : TypeId} {x : Operand} {i b : Nat} {l : List Value} {len cap : Nat} (ht : P.underlying t = some (.slice e)) (he : P.underlying e = some (.int .u8)) (hx : ev env x = some (.slice (some ⟨b, 0, none⟩) len cap)) (hi : rs[i]? = some (blk b l e)) :
    Ac P n env (Oper.mk dst (.convert t t x) ty pos aft g) w fun u w' => u = .slice (some ⟨b, 0, none⟩) len cap ∧ Keep (· ∈ [b]) w w' ∧ Mem w0 w' F (rs.set i (blk b l e (l.length, l.length + 1))) :=
  Ac.of_run fun a ha => by
    have hb' : w.heap[b]? = some (.cells l.toArray e (0, 0)) := M.get hi
    have hs : w.shape? b = some (e, l.length) := by simp [World.shape?, hb']
    have hk : Keep (· ∈ [b]) w (w.freeze ⟨b, l.length, none⟩ 1) := by
      refine ⟨rfl, rfl, rfl, by simp [World.freeze], fun k _ hk => ?_⟩
      simp only [World.freeze, Nat.one_ne_zero, if_false, Array.getElem?_modify]
      rw [if_neg (by simp at hk; omega)]
    refine ⟨.slice (some ⟨b, 0, none⟩) len cap, w.freeze ⟨b, l.length, none⟩ 1, ?_, rfl, hk, M.turn hi hk ?_ (by simp [blk])⟩
    · simp [execOp, ha.eval hx, convert, run_underlying ht, run_underlying he, markStringish, shape, freeze, Sem.run, hs]
    · show (w.freeze ⟨b, l.length, none⟩ 1).heap[b]? = _
      simp [World.freeze, Array.getElem?_modify, hb']
/-- make([]T, n). -/
theorem Ac.mk (M : Mem w0 w F rs) {t e : TypeId} {sz bytes : Nat} (h : El P t e sz bytes) {x y : Operand} {k k' : IntKind} {p q : Int} {m : Nat} (hx : ev env x = some (.int k p)) (hy : ev env y = some (.int k' q)) (hp : p = (m : Int)) (hq : q = (m : Int)) (hb : bytes * m ≤ 281474976710656) (h63 : m ≤ maxLen)
    {zs : List Value} (hz : (P.info? e).bind (fun i => i.zero.map Value.cells) = some zs.toArray) :
    Ac P n env (Oper.mk dst (.makeSlice t x y) ty pos aft g) w fun u w' => ∃ b, u = .slice (some ⟨b, 0, none⟩) m m ∧ w.heap.size ≤ b ∧ Keep nof w w' ∧ Mem w0 w' F (row u e sz m (madeCells zs.toArray (m * sz)).toList :: rs) :=
  Ac.of_run fun a ha => by
    obtain ⟨ht, hi0, hsz⟩ := h
    obtain ⟨i, hi, hp'⟩ := Option.map_eq_some_iff.1 hi0
    simp only [Prod.mk.injEq] at hp'
    obtain ⟨hp1, hp2, hp3⟩ := hp'
    obtain ⟨z, hzz, hzs⟩ := Option.map_eq_some_iff.1 hp3
    have hz' : z.cells = zs.toArray := by simpa [hi, hzz] using hz
    subst hp; subst hq; subst hp2
    obtain ⟨w', h1, h2, h3⟩ := run_make_full (P := P) w 0 t e i z sz ht hi hzz hp1 k k' m hb h63 (Nat.zero_le _)
    have hK : Keep nof w w' := (Keep.grown h3).mono fun b _ hb => by cases hb
    rw [hz'] at h2
    exact ⟨_, w', by simp [execOp, ha.eval hx, ha.eval hy, h1], w.heap.size, rfl, Nat.le_refl _, hK, M.grow hK h2 (by simp [row, Value.ownBlock])⟩

/-! ### A struct or an array made of its parts -/
/-- Where the parts lie, and the zero value's cells: a closed fact of the type. -/
def Bld (P : Program) (t : TypeId) (places : List (Nat × Nat)) (zs : List Value) : Prop :=
  (P.info? t).bind (fun i => i.zero.map Value.cells) = some zs.toArray ∧
  ((∃ fs, P.underlying t = some (.struct fs) ∧ fs.toList.map (fun f => (f.offset, (P.info? f.type).map (·.size))) = places.map fun p => (p.1, some p.2)) ∨
   (∃ m e sz, P.underlying t = some (.array m e) ∧ (P.info? e).map (·.size) = some sz ∧ places = (List.range m).map fun i => (i * sz, sz)))
theorem fill_congr {f f' : Nat → Option (Nat × Nat)} : ∀ (ps : List (Nat × Value)) (cs : Array Value), (∀ p ∈ ps, f p.1 = f' p.1) → Instr.fill f cs ps = Instr.fill f' cs ps
  | [], _, _ => rfl
  | (i, v) :: r, cs, h => by
    have h0 := h (i, v) (by simp)
    simp only at h0
    simp only [Instr.fill, h0]
    cases f' i with
    | none => rfl
    | some q =>
      obtain ⟨o, s⟩ := q
      simp only
      split
      · rfl
      · exact fill_congr r _ fun p hp => h p (by simp [hp])
theorem run_build {t : TypeId} {places : List (Nat × Nat)} {zs : List Value} (h : Bld P t places zs) {ps : List (Nat × Value)} {l : List Value} (hin : ∀ p ∈ ps, p.1 < places.length) (hf : Instr.fill (fun i => places[i]?) zs.toArray ps = some l.toArray) (w : World) : (Instr.build t ps.toArray).run P w = .ok (.agg l.toArray) w := by
  obtain ⟨hz, h⟩ := h
  obtain ⟨i, hi, h2⟩ := Option.bind_eq_some_iff.1 hz
  obtain ⟨z, hz1, hz2⟩ := Option.map_eq_some_iff.1 h2
  rcases h with ⟨fs, ht, hp⟩ | ⟨m, e, sz, ht, hs, hp⟩
  · have hm : ∀ (l : List Field) (pl : List (Nat × Nat)), l.map (fun f => (f.offset, (P.info? f.type).map (·.size))) = pl.map (fun p => (p.1, some p.2)) →
        (l.mapM fun f => (do pure (f.offset, ← sizeOf f.type) : Sem (Nat × Nat))).run P w = .ok pl w := by
      intro l
      induction l with
      | nil => intro pl h; cases pl with
        | nil => simp [List.mapM_nil]
        | cons _ _ => simp at h
      | cons f r ih =>
        intro pl h
        cases pl with
        | nil => simp at h
        | cons p pr =>
          simp only [List.map_cons, List.cons.injEq, Prod.mk.injEq] at h
          obtain ⟨⟨h1, h2⟩, h3⟩ := h
          simp only [List.mapM_cons, Sem.run_bind, run_sizeOf h2, Result.andThen_ok, Sem.run_pure, ih pr h3, h1]
    have hm' := hm fs.toList places hp
    have e1 : (fs.mapM fun f => (do pure (f.offset, ← sizeOf f.type) : Sem (Nat × Nat))).run P w = .ok places.toArray w := by
      rw [Array.mapM_eq_mapM_toList]
      simp only [Sem.run_map, hm', Result.andThen_ok]
    have hf' : Instr.fill (fun i => places.toArray[i]?) zs.toArray ps = some l.toArray := by rw [← hf]; exact fill_congr _ _ fun p _ => by simp
    simp only [Instr.build, Sem.run_bind, zeroValue, typeInfo, run_program, Result.andThen_ok, hi, hz1, Sem.run_pure, run_underlying ht, e1, hz2, hf']
  · have hf' : Instr.fill (fun i => some (i * sz, sz)) zs.toArray ps = some l.toArray := by
      rw [← hf]
      refine fill_congr _ _ fun p hm => ?_
      have := hin p hm
      rw [hp] at this ⊢
      simp at this
      simp [this]
    simp only [Instr.build, Sem.run_bind, zeroValue, typeInfo, run_program, Result.andThen_ok, hi, hz1, Sem.run_pure, run_underlying ht, run_sizeOf hs, hz2, hf']
theorem Ex.bld {t : TypeId} {places : List (Nat × Nat)} {zs : List Value} (h : Bld P t places zs) {parts : List (Nat × Operand)} {ps : List (Nat × Value)} {l : List Value} (hp : (parts.map (·.1)).zip ((evs env (parts.map (·.2))).getD []) = ps) (hs : (evs env (parts.map (·.2))).isSome = true)
    (hin : ps.all (fun p => Nat.ble (p.1 + 1) places.length) = true) (hf : Instr.fill (fun i => places[i]?) zs.toArray ps = some l.toArray) :
    Ex P n env (Oper.mk dst (.build t parts.toArray) ty pos aft g) (.agg l.toArray) w := fun a ha => by
  obtain ⟨vs, hvs⟩ := Option.isSome_iff_exists.1 hs
  have h1 := ha.evals hvs
  have e1 : (parts.toArray.map fun (i, x) => (i, a.eval x)) = ps.toArray := by
    rw [← hp, hvs]
    simp only [Option.getD_some, ← h1]
    apply Array.toList_inj.1
    simp only [Array.toList_map, List.map_map]
    clear h1 hvs hs hp hf hin
    induction parts with
    | nil => rfl
    | cons p r ih => simp [ih]
  have hin' : ∀ p ∈ ps, p.1 < places.length := fun p hm => Nat.le_of_ble_eq_true (List.all_eq_true.1 hin p hm)
  simp only [execOp, e1, Sem.run_bind, run_build h hin' hf, Result.andThen_ok, Sem.run_pure]

/-! ### Calls -/
theorem splice_of_len {l vs : List Value} (h : l.length = vs.length) : splice l 0 vs = vs := by simp [splice, h]
theorem fold_splice (off : Nat) : ∀ (vs : List Value) (k : Nat) (cs : Array Value), off + k + vs.length ≤ cs.size →
    ((vs.zipIdx k).foldl (fun (cs : Array Value) (p : Value × Nat) => cs.setIfInBounds (off + p.2) p.1) cs).toList = splice cs.toList (off + k) vs
  | [], k, cs, _ => by simp [splice]
  | v :: r, k, cs, h => by
    simp only [List.length_cons] at h
    rw [List.zipIdx_cons, List.foldl_cons, fold_splice off r (k + 1) _ (by simp; omega)]
    have e := list_seg_step cs.toList (off + k) v r (by simp; omega)
    simp only [splice, Array.toList_setIfInBounds, List.length_cons]
    rw [show off + (k + 1) = off + k + 1 by omega]
    exact e
/-- The parts, one after the other. -/
def okS (pl : Nat → Option (Nat × Nat)) : List Value → List (Nat × Value) → List (List Value) → List Value → Prop
  | zs, [], [], l => zs = l
  | zs, (i, v) :: r, vs :: s, l => ∃ o sz, pl i = some (o, sz) ∧ v.cells = vs.toArray ∧ vs.length = sz ∧ o + sz ≤ zs.length ∧ okS pl (splice zs o vs) r s l
  | _, _, _, _ => False
theorem fill_of {pl : Nat → Option (Nat × Nat)} : ∀ (ps : List (Nat × Value)) (ss : List (List Value)) (zs l : List Value), okS pl zs ps ss l → Instr.fill pl zs.toArray ps = some l.toArray
  | [], [], zs, l, h => by rw [show zs = l from h]; rfl
  | [], _ :: _, zs, l, h => h.elim
  | (i, v) :: r, [], zs, l, h => h.elim
  | (i, v) :: r, vs :: s, zs, l, h => by
    obtain ⟨o, sz, h1, h2, h3, h4, h5⟩ := h
    have ih := fill_of r s _ l h5
    simp only [Instr.fill, h1, h2]
    rw [if_neg (by simp; omega)]
    rw [← ih]
    congr 1
    apply Array.toList_inj.1
    have := fold_splice o vs 0 zs.toArray (by simp; omega)
    simp only [Nat.add_zero] at this
    rw [← Array.foldl_toList]
    simpa using this
theorem Ex.bldS {t : TypeId} {places : List (Nat × Nat)} {zs : List Value} (h : Bld P t places zs) {parts : List (Nat × Operand)} {ps : List (Nat × Value)} (ss : List (List Value)) {l : List Value} (hp : (parts.map (·.1)).zip ((evs env (parts.map (·.2))).getD []) = ps) (hs : (evs env (parts.map (·.2))).isSome = true)
    (hin : ps.all (fun p => Nat.ble (p.1 + 1) places.length) = true) (hf : okS (fun i => places[i]?) zs ps ss l) :
    Ex P n env (Oper.mk dst (.build t parts.toArray) ty pos aft g) (.agg l.toArray) w := Ex.bld h hp hs hin (fill_of ps ss zs l hf)
/-- A literal slice of one element that is a row of cells. -/
theorem LitS.agg1 {t e : TypeId} {sz b : Nat} {v : Value} {vs : List Value} (he : El P t e sz b) (h1 : v.cells = vs.toArray) (hl : vs.length = sz) (hle : sz ≤ 16777216) : LitS P t 1 [(0, v)] e vs := by
  obtain ⟨ht, h2, _⟩ := he
  obtain ⟨i, hi, hp⟩ := Option.map_eq_some_iff.1 h2
  simp only [Prod.mk.injEq] at hp
  obtain ⟨z, hz, hzs⟩ := Option.map_eq_some_iff.1 hp.2.2
  refine ⟨ht, sz, z.cells, by simp [hi, hp.1], by omega, fun _ => by simp [hi, hz], ?_⟩
  have hlen : ((Array.range (1 * sz)).map (z.cells[· % z.cells.size]!)).toList.length = sz := by simp
  have := fill_of (pl := fun i => some (i * sz, sz)) [(0, v)] [vs] ((Array.range (1 * sz)).map (z.cells[· % z.cells.size]!)).toList vs
    ⟨0 * sz, sz, rfl, h1, hl, by rw [hlen]; omega, by show splice _ _ _ = vs; rw [Nat.zero_mul, splice_of_len (by rw [hlen, hl])]⟩
  rw [Array.toArray_toList] at this
  exact this
theorem fill_ones : ∀ (vs : List Value) (k : Nat) (zs : List Value), (∀ v ∈ vs, v.cells = #[v]) → k + vs.length ≤ zs.length →
    Instr.fill (fun i => some (i * 1, 1)) zs.toArray ((vs.zipIdx k).map fun p => (p.2, p.1)) = some (splice zs k vs).toArray
  | [], k, zs, _, _ => by simp [Instr.fill, splice]
  | v :: r, k, zs, h, hl => by
    simp only [List.length_cons] at hl
    have h1 := h v (by simp)
    rw [List.zipIdx_cons, List.map_cons]
    simp only [Instr.fill, h1]
    rw [if_neg (by simp; omega)]
    have e : (#[v].zipIdx.foldl (fun (cs : Array Value) (x : Value × Nat) => cs.setIfInBounds (k * 1 + x.2) x.1) zs.toArray) = (zs.set k v).toArray := by
      simp
    have ih := fill_ones r (k + 1) (zs.set k v) (fun u hu => h u (by simp [hu])) (by simp; omega)
    have e2 := list_seg_step zs k v r (by omega)
    have e3 : splice (zs.set k v) (k + 1) r = splice zs k (v :: r) := e2
    rw [← e3, ← ih, ← e]
/-- A literal slice of elements of one cell each. -/
theorem LitS.ones {t e b : Nat} (he : El P t e 1 b) (vs : List Value) (h1 : ∀ v ∈ vs, v.cells = #[v]) (hle : vs.length ≤ 16777216) : LitS P t vs.length (vs.zipIdx.map fun p => (p.2, p.1)) e vs := by
  obtain ⟨ht, h2, _⟩ := he
  obtain ⟨i, hi, hp⟩ := Option.map_eq_some_iff.1 h2
  simp only [Prod.mk.injEq] at hp
  obtain ⟨z, hz, hzs⟩ := Option.map_eq_some_iff.1 hp.2.2
  refine ⟨ht, 1, z.cells, by simp [hi, hp.1], by omega, fun _ => by simp [hi, hz], ?_⟩
  have hlen : ((Array.range (vs.length * 1)).map (z.cells[· % z.cells.size]!)).toList.length = vs.length := by simp
  have := fill_ones vs 0 ((Array.range (vs.length * 1)).map (z.cells[· % z.cells.size]!)).toList h1 (by rw [hlen]; omega)
  rw [Array.toArray_toList, splice_of_len (by rw [hlen])] at this
  exact this
theorem own_some {w : World} {A : Option Addr} {e : TypeId} {sz n c : Nat} {xs : List Value} (h : (row (.slice A n c) e sz n xs).sat w) (hn : 0 < n) : ∃ g, A = some ⟨g, 0, none⟩ := by
  rcases h.2 with ⟨hv, h0⟩ | ⟨g, cap, cur, hv, _⟩
  · omega
  · injection hv with h1 h2 h3
    exact ⟨g, h1⟩
/-- An element of a row that is owned is written. -/
theorem Ac.stR (M : Mem w0 w F rs) {t : TypeId} {x y : Operand} {i b o sz n' c : Nat} {l : List Value} {e : TypeId} {v : Value} (ht : Ty P t 1 false) (hx : ev env x = some (.pointer (some ⟨b, o, none⟩))) (hy : ev env y = some v) (h1 : v.oneCell' = true)
    (hi : rs[i]? = some (row (.slice (some ⟨b, 0, none⟩) n' c) e sz n' l)) (ho : o < l.length) :
    Ac P n env (Oper.mk dst (.store t x y) ty pos aft g) w fun _ w' => Keep (· ∈ [b]) w w' ∧ Mem w0 w' F (rs.set i (row (.slice (some ⟨b, 0, none⟩) n' c) e sz n' (l.set o v))) :=
  Ac.of_skip fun a ha => by
    have hc : v.cells = #[v] := by cases v <;> first | rfl | simp [Value.oneCell'] at h1
    have hb := M.get hi
    rcases hb.2 with ⟨hv, _⟩ | ⟨g', cap, cur, hv, hbb, hg, hnc, hcm, hsz, hcur⟩
    · cases hv
    injection hv with e1 e2 e3
    injection e1 with e1
    injection e1 with e1 _ _
    subst e1; subst e3
    have hlen : l.length = n' * sz := hb.1
    have hle : n' * sz ≤ c * sz := Nat.mul_le_mul_right _ hnc
    have hoc : o < cur.size := by rw [hsz]; omega
    have h2 : w.cell? ⟨b, o, none⟩ = some cur[o] := by simp [World.cell?, hg, hoc]
    have h3 : w.frozen? ⟨b, o, none⟩ = false := by simp [World.frozen?, hg]
    have hadd : (⟨b, o, none⟩ : Addr).add 0 = ⟨b, o, none⟩ := by simp [Addr.add]
    refine ⟨w.setCell ⟨b, o, none⟩ v, by simp [execOp, ha.eval hx, ha.eval hy, Instr.storeAt, Instr.sureAddr, storeVar, run_sizeOf ht.1, hc, storeCells, hadd, run_store P w _ v _ h1, h2, h3], keep_setCell o v, ?_⟩
    refine M.turn hi (by simpa [row, Value.ownBlock] using keep_setCell (w := w) (b := b) o v) ?_ (by simp [row, Value.ownBlock])
    refine ⟨by rw [List.length_set]; exact hlen, .inr ⟨b, c, cur.setIfInBounds o v, rfl, hbb, ?_, hnc, hcm, by simpa using hsz, ?_⟩⟩
    · simp [World.setCell, Array.getElem?_modify, hg]
    · rw [Array.toList_setIfInBounds, ← hcur, List.take_set]
/-- Cells are copied into a block that is known. -/
theorem Ac.cp (M : Mem w0 w F rs) {dT sT e : TypeId} {x y : Operand} {i b o dLen dCap sLen sCap : Nat} {sp : Option Addr} {l cs : List Value} {e' : TypeId} (ht : P.underlying dT = some (.slice e)) (hz : (P.info? e).map (·.size) = some 1)
    (hx : ev env x = some (.slice (some ⟨b, o, none⟩) dLen dCap)) (hy : ev env y = some (.slice sp sLen sCap)) (hi : rs[i]? = some (blk b l e')) (hn : cs.length = Nat.min sLen dLen) (hr : Rd w sp cs) (hfit : o + cs.length ≤ l.length) (h1 : ∀ u ∈ cs, u.oneCell' = true) :
    Ac P n env (Oper.mk dst (.call { callee := .builtin .copy, args := #[x, y], argTypes := #[dT, sT] }) ty pos aft g) w fun u w' => u = .int .i64 (cs.length : Int) ∧ Keep (· ∈ [b]) w w' ∧ Mem w0 w' F (rs.set i (blk b (splice l o cs) e')) :=
  Ac.of_run fun a ha => by
    have hb' : w.heap[b]? = some (.cells l.toArray e' (0, 0)) := M.get hi
    rcases Nat.eq_zero_or_pos cs.length with h0 | h0
    · obtain rfl : cs = [] := List.eq_nil_of_length_eq_zero h0
      have hrun := run_copy_none (P := P) w dT sT ty e (some ⟨b, o, none⟩) sp dLen dCap sLen sCap ht hz (by simpa using hn.symm)
      refine ⟨goInt 0, w, by simp [execOp, resolve, invoke, builtin, ha.eval hx, ha.eval hy, hrun], rfl, Keep.refl _ _, ?_⟩
      have e2 : splice l o [] = l := by simp [splice]
      rw [e2]
      exact M.turn hi (Keep.refl _ _) (M.get hi) fun b hb => .inl hb
    · obtain ⟨p, rfl⟩ := hr.some_of h0
      have hrun := run_copy_row (P := P) w dT sT ty e b o dLen dCap p sLen sCap l.toArray e' cs ht hz hb' hn (fun j v hj => by obtain ⟨a', e, h⟩ := hr j v hj; injection e with e; subst e; exact h) (by simpa using hfit) h1
      refine ⟨goInt cs.length, w.setRow b (splice l o cs).toArray, by simp [execOp, resolve, invoke, builtin, ha.eval hx, ha.eval hy, hrun, splice], rfl, keep_setRow _, M.setRow hi⟩
theorem Ac.call {f : FuncId} {fn : Func} {args : List Operand} {vs : List Value} {ts : Array TypeId} {R : Value → World → Prop} (hv : evs env args = some vs) (hf : P.funcs[f]? = some fn) (hnm : (fn.name == "runtime.NumGoroutine") = false) (hb : fn.body.isNone = false)
    (hc : Gives P f vs.toArray w R) : Ac P n env (Oper.mk dst (.call { callee := .value (.func f), args := args.toArray, argTypes := ts }) ty pos aft g) w R := by
  intro a ha K Q hK
  have h1 := ha.evals hv
  have e1 : args.toArray.map a.eval = vs.toArray := by apply Array.toList_inj.1; simpa using h1
  have hr : (execOp a.eval (Oper.mk dst (.call { callee := .value (.func f), args := args.toArray, argTypes := ts }) ty pos aft g)).run P w = .ok (.enter f vs.toArray) w := by
    simp only [execOp, resolve, e1, Act.eval, Deferred.ofValue, Sem.run_bind, Sem.run_pure, Result.andThen_ok, invoke, callFunc, run_program, hf, hnm, hb, Bool.false_eq_true, if_false]
    simp
  unfold Oper.wp
  rw [hr, Oper.upon_enter]
  exact hc.mono fun e w' ⟨v, he, r⟩ => by subst he; exact hK v w' r
end
end Go.Sx
