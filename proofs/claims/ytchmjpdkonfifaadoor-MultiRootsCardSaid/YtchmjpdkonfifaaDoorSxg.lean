/-
  A walk by small steps, part 7: two things as one; a row in the midst of a block; a jump back; zeros appended.
-/
import Derived.Test.YtchmjpdkonfifaaDoorSxf
import Derived.ScopeJumps
import Derived.Deep.AppendSrc
import Derived.Lib.AppendZerosOnto
import Derived.Laws.IdiomStrings
set_option linter.unusedVariables false
set_option linter.unusedSimpArgs false
namespace Go.Sx
open Go.RowKit

/-! ### Two things that lie apart, as one -/
def sep (r s : Res) : Res where
  fp := r.fp ++ s.fp
  sat w := r.sat w ∧ s.sat w ∧ ∀ b ∈ r.fp, b ∉ s.fp
  lt w h b hb := by
    rcases List.mem_append.1 hb with hb | hb
    · exact r.lt w h.1 b hb
    · exact s.lt w h.2.1 b hb
  loc w w' h hk := ⟨r.loc w w' h.1 fun b hb => hk b (List.mem_append_left _ hb), s.loc w w' h.2.1 fun b hb => hk b (List.mem_append_right _ hb), h.2.2⟩
theorem Mem.openS {w0 w : World} {F : Nat → Prop} {rs : List Res} {r s : Res} (M : Mem w0 w F (sep r s :: rs)) : Mem w0 w F (r :: s :: rs) := by
  have h : (sep r s).sat w := M.sat _ (by simp)
  have hd := List.pairwise_cons.1 M.dis
  refine ⟨M.keep, fun q hq => ?_, fun q hq b hb => ?_, ?_⟩
  · rcases List.mem_cons.1 hq with rfl | hq
    · exact h.1
    · rcases List.mem_cons.1 hq with rfl | hq
      · exact h.2.1
      · exact M.sat q (by simp [hq])
  · rcases List.mem_cons.1 hq with rfl | hq
    · exact M.own _ (List.mem_cons_self ..) b (List.mem_append_left _ hb)
    · rcases List.mem_cons.1 hq with rfl | hq
      · exact M.own _ (List.mem_cons_self ..) b (List.mem_append_right _ hb)
      · exact M.own q (by simp [hq]) b hb
  · refine List.pairwise_cons.2 ⟨fun q hq b hb => ?_, List.pairwise_cons.2 ⟨fun q hq b hb => ?_, hd.2⟩⟩
    · rcases List.mem_cons.1 hq with rfl | hq
      · exact h.2.2 b hb
      · exact hd.1 q hq b (List.mem_append_left _ hb)
    · exact hd.1 q hq b (List.mem_append_right _ hb)
theorem Mem.closeS {w0 w : World} {F : Nat → Prop} {rs : List Res} {r s : Res} (M : Mem w0 w F (r :: s :: rs)) : Mem w0 w F (sep r s :: rs) := by
  have hd := List.pairwise_cons.1 M.dis
  have hd2 := List.pairwise_cons.1 hd.2
  refine ⟨M.keep, fun q hq => ?_, fun q hq b hb => ?_, List.pairwise_cons.2 ⟨fun q hq b hb => ?_, hd2.2⟩⟩
  · rcases List.mem_cons.1 hq with rfl | hq
    · exact ⟨M.sat r (by simp), M.sat s (by simp), hd.1 s (List.mem_cons_self ..)⟩
    · exact M.sat q (by simp [hq])
  · rcases List.mem_cons.1 hq with rfl | hq
    · rcases List.mem_append.1 hb with hb | hb
      · exact M.own r (by simp) b hb
      · exact M.own s (by simp) b hb
    · exact M.own q (by simp [hq]) b hb
  · rcases List.mem_append.1 hb with hb | hb
    · exact hd.1 q (by simp [hq]) b hb
    · exact hd2.1 q hq b hb

/-! ### A row of single cells in the midst of a block -/
def mrw (v : Value) (e : TypeId) (xs : List Value) : Res where
  fp := v.ownBlock.toList
  sat w := (v = .slice none 0 0 ∧ xs = []) ∨ ∃ g o cap, ∃ cur : Array Value, v = .slice (some ⟨g, o, none⟩) xs.length cap ∧ w.heap[g]? = some (.cells cur e (0, 0)) ∧ xs.length ≤ cap ∧ cap ≤ maxLen ∧ o + cap ≤ cur.size ∧ (cur.toList.drop o).take xs.length = xs
  lt w h b hb := by
    rcases h with ⟨rfl, _⟩ | ⟨g, o, cap, cur, rfl, hg, _⟩
    · simp [Value.ownBlock] at hb
    · simp [Value.ownBlock] at hb
      subst hb
      exact lt_of_heap hg
  loc w w' h hk := by
    rcases h with h | ⟨g, o, cap, cur, rfl, hg, rest⟩
    · exact .inl h
    · exact .inr ⟨g, o, cap, cur, rfl, by rw [hk g (by simp [Value.ownBlock])]; exact hg, rest⟩
theorem mrw_nil (w : World) (e : TypeId) : (mrw (.slice none 0 0) e []).sat w := .inl ⟨rfl, rfl⟩
theorem mrw_of_row {w : World} {v : Value} {e : TypeId} {n : Nat} {xs : List Value} (h : (row v e 1 n xs).sat w) : (mrw v e xs).sat w := by
  have hl : xs.length = n := by simpa using h.1
  rcases h.2 with ⟨rfl, rfl⟩ | ⟨g, cap, cur, rfl, _, hg, hnc, hcm, hcs, ht⟩
  · exact .inl ⟨rfl, List.eq_nil_of_length_eq_zero hl⟩
  · exact .inr ⟨g, 0, cap, cur, by rw [hl], hg, by omega, hcm, by simp at hcs; omega, by rw [List.drop_zero, hl]; simpa using ht⟩
theorem mrw_len {w : World} {v : Value} {e : TypeId} {xs : List Value} (h : (mrw v e xs).sat w) : ∃ A c, v = .slice A xs.length c := by
  rcases h with ⟨rfl, rfl⟩ | ⟨g, o, cap, cur, rfl, _⟩
  · exact ⟨none, 0, rfl⟩
  · exact ⟨_, cap, rfl⟩
theorem mrw_rd {w : World} {A : Option Addr} {n c : Nat} {e : TypeId} {xs : List Value} (h : (mrw (.slice A n c) e xs).sat w) : Rd w A xs := by
  rcases h with ⟨_, rfl⟩ | ⟨g, o, cap, cur, hv, hg, h1, h2, h3, h4⟩
  · exact Rd.nil _ _
  · injection hv with e1 e2 e3
    subst e1
    refine Rd.of_cells fun j u hj => ?_
    rw [cell_of_row w g (o + j) cur e (0, 0) hg]
    rw [← h4, List.getElem?_take] at hj
    split at hj
    · rw [List.getElem?_drop] at hj
      simpa using hj
    · cases hj
/-- The first k are cut away. -/
theorem mrw_drop {w : World} {A : Option Addr} {n c : Nat} {e : TypeId} {xs : List Value} (h : (mrw (.slice A n c) e xs).sat w) {k : Nat} (hk : k ≤ xs.length) :
    (mrw (.slice (if c = k then A else A.map (·.add (k * 1))) (n - k) (c - k)) e (xs.drop k)).sat w := by
  rcases h with ⟨hv, rfl⟩ | ⟨g, o, cap, cur, hv, hg, h1, h2, h3, h4⟩
  · injection hv with e1 e2 e3
    subst e1; subst e2; subst e3
    have : k = 0 := by simpa using hk
    subst this
    exact .inl ⟨by simp, by simp⟩
  · injection hv with e1 e2 e3
    subst e1; subst e2; subst e3
    right
    by_cases hc : c = k
    · subst hc
      have hx : xs.length = c := by omega
      exact ⟨g, o, 0, cur, by simp [hx], hg, by simp [hx], by simp [maxLen], by omega, by simp [hx]⟩
    · rw [if_neg hc]
      refine ⟨g, o + k, c - k, cur, by simp [add0], hg, by simp; omega, by omega, by omega, ?_⟩
      rw [← List.drop_drop, List.length_drop]
      have := congrArg (List.drop k) h4
      rw [List.drop_take] at this
      exact this
section
variable {P : Program} {n : Nat} {env : Env} {w w0 : World} {F : Nat → Prop} {rs : List Res} {dst : Option Tmp} {ty : TypeId} {pos : String} {aft : Array Edge} {g : Option (Nat × Bool)} {o : Oper} {b : Nat}
theorem run_appm {t e : TypeId} {bytes : Nat} (h : El P t e 1 bytes) (ty : TypeId) {w : World} {v : Value} {xs : List Value} (hv : (mrw v e xs).sat w) {A : Option Addr} {k c : Nat} {news : List Value} (hl : news.length = k)
    (hr : Rd w A news) (h1 : ∀ u ∈ news, u.oneCell' = true) (hb : (xs.length + k) * bytes ≤ 140737488355328) (h63 : xs.length + k ≤ maxLen) :
    ∃ v' w', (Builtin.append_ #[t, t] ty #[v, .slice A k c]).run P w = .ok v' w' ∧ (mrw v' e (xs ++ news)).sat w' ∧ Keep (· ∈ (mrw v e xs).fp) w w' ∧ (∀ b ∈ (mrw v' e (xs ++ news)).fp, b ∈ (mrw v e xs).fp ∨ w.heap.size ≤ b) := by
  have hsat := hv
  rcases hv with ⟨rfl, rfl⟩ | ⟨g, o, cap, cur, rfl, hg, hlc, hcm, hcs, ht⟩
  · obtain ⟨v', w', h2, h3, h4, h5⟩ := run_app (c := c) h ty (row_nil w e 1) (k := k) (by simpa using hl) hr h1 (by simpa using hb) (by simpa using h63)
    refine ⟨v', w', h2, ?_, h4, h5⟩
    have := mrw_of_row h3
    simpa using this
  · obtain ⟨hu, hi0, hsz⟩ := h
    obtain ⟨i, hi, hp⟩ := Option.map_eq_some_iff.1 hi0
    simp only [Prod.mk.injEq] at hp
    obtain ⟨hp1, hp2, hp3⟩ := hp
    obtain ⟨z, hz, hzs⟩ := Option.map_eq_some_iff.1 hp3
    have holds : ∀ j u, xs[j]? = some u → w.cell? ((⟨g, o, none⟩ : Addr).add j) = some u := fun j u hj => by
      obtain ⟨a, ha, hc⟩ := mrw_rd hsat j u hj
      injection ha with ha
      subst ha
      exact hc
    cases A with
    | none =>
      have hn : news = [] := by
        cases news with
        | nil => rfl
        | cons u r => obtain ⟨a, ha, _⟩ := hr 0 u rfl; cases ha
      subst hn
      have hk : k = 0 := by simpa using hl.symm
      subst hk
      refine ⟨_, w, ?_, by simpa using hsat, Keep.refl _ _, fun b hb => .inl (by simpa [mrw] using hb)⟩
      simp [Builtin.append_, run_underlying hu, sizeOf, typeInfo, hi, Builtin.lenOf, Builtin.firstCells, hlc, storeCells]
    | some a =>
      have hnews : ∀ j u, news[j]? = some u → w.cell? (a.add j) = some u := fun j u hj => by obtain ⟨a', e, h⟩ := hr j u hj; injection e with e; subst e; exact h
      have hbn : 1 ≤ bytes ∨ bytes = 0 := by omega
      by_cases hroom : xs.length + k ≤ cap
      · have hsrc := Src.ofSlice (P := P) w (size := 1) hu a k c news (by simpa using hl) hnews h1
        have hst := run_storeCells_at P g (o + xs.length * 1) e news 0 cur w hg (by omega) h1
        simp only [Nat.add_zero] at hst
        refine ⟨.slice (some ⟨g, o, none⟩) (xs.length + k) cap, w.setRow g (splice cur.toList (o + xs.length) news).toArray, ?_, ?_, ?_, ?_⟩
        · have hsc := hsrc.cells
          have hsl := hsrc.len
          simp only [Nat.mul_one] at hst
          simp [Builtin.append_, run_underlying hu, sizeOf, typeInfo, hi, hsl, hroom, hsc, Addr.add_lit, hst, splice, hp1]
        · refine .inr ⟨g, o, cap, _, by simp [hl], setRow_heap w g cur _ e _ hg, by simp; omega, hcm, ?_, ?_⟩
          · have := splice_length (l := cur.toList) (vs := news) (o := o + xs.length) (by simp; omega)
            simp only [List.size_toArray, this]
            simpa using hcs
          · show (List.drop o (splice cur.toList (o + xs.length) news)).take (xs ++ news).length = xs ++ news
            have e1 : cur.toList.take (o + xs.length) = cur.toList.take o ++ xs := by
              rw [List.take_add, ht]
            have e2 : (cur.toList.take o).length = o := by simp; omega
            rw [splice, e1, List.append_assoc, List.append_assoc, List.drop_append, e2]
            rw [List.drop_eq_nil_of_le (by omega), List.nil_append, Nat.sub_self, List.drop_zero, ← List.append_assoc]
            exact List.take_left
        · exact keep_setRow _ |>.mono fun b _ hb => by simpa [mrw, Value.ownBlock] using hb
        · intro b hb; left; simpa [mrw, Value.ownBlock] using hb
      · have hxl : xs.length = xs.length * i.size := by rw [hp1]; omega
        have hr2 := run_append_grow (P := P) w t ty e i z hu hi hz ⟨g, o, none⟩ xs.length cap xs (by rw [hp1]; omega) holds a k c news (by rw [hp1]; omega) hnews (by omega) (by simp only [maxLen] at h63; omega) (growslice_fits (by omega) (by rw [hp2]; exact hb))
        refine ⟨_, _, hr2, ?_, ?_, ?_⟩
        · have hge := grownCap_ge w (xs.length + k) cap e
          have hcm2 := grownCap_le_maxLen w (xs.length + k) cap e h63
          refine .inr ⟨w.heap.size, 0, _, _, by simp [hl], heap_alloc_new w.drew _, by simp [hl]; omega, hcm2, ?_, ?_⟩
          · simp only [Array.size_append, List.size_toArray, size_zeroCells, hzs, hp1, hl]
            omega
          · simp only [List.drop_zero, Array.toList_append, List.append_assoc]
            rw [← List.append_assoc]
            exact List.take_left
        · exact ⟨rfl, rfl, rfl, by simp, fun q hq _ => Below.heap_alloc w.drew _ q hq⟩
        · intro b hb
          right
          have : b = w.heap.size := by simpa [mrw, Value.ownBlock] using hb
          omega
theorem Ac.appm (M : Mem w0 w F rs) {t e : TypeId} {bytes : Nat} (h : El P t e 1 bytes) {s x : Operand} {i k c : Nat} {v : Value} {A : Option Addr} {xs news : List Value} (hs : ev env s = some v) (hx : ev env x = some (.slice A k c))
    (hi : rs[i]? = some (mrw v e xs)) (hl : news.length = k) (hr : Rd w A news) (h1 : ∀ u ∈ news, u.oneCell' = true) (hb : (xs.length + k) * bytes ≤ 140737488355328) (h63 : xs.length + k ≤ maxLen) :
    Ac P n env (Oper.mk dst (.call { callee := .builtin .append, args := #[s, x], argTypes := #[t, t] }) ty pos aft g) w fun u w' => Keep (· ∈ (mrw v e xs).fp) w w' ∧ Mem w0 w' F (rs.set i (mrw u e (xs ++ news))) :=
  Ac.of_run fun a ha => by
    obtain ⟨v', w', h2, h3, h4, h5⟩ := run_appm (c := c) h ty (M.get hi) hl hr h1 hb h63
    exact ⟨v', w', by simp [execOp, resolve, invoke, builtin, ha.eval hs, ha.eval hx, h2], h4, M.turn hi h4 h3 h5⟩

/-! ### Zeros appended: 'append(s, make([]T, k)...)', s full -/
theorem Ac.app0 (M : Mem w0 w F rs) {t tn e : TypeId} {bytes : Nat} {zv : Value} {kn kq : IntKind} (h : El P t e 1 bytes) (htn : P.underlying tn = some (.int kn)) (hzv : (P.info? e).bind (fun i => i.zero.map Value.cells) = some #[zv]) (hb0 : 0 < bytes) {s x : Operand} {i b k m : Nat} {q : Int} {l : List Value}
    (hs : ev env s = some (.slice (some ⟨b, 0, none⟩) m m)) (hx : ev env x = some (.int kq q)) (hq : q = (k : Int)) (hi : rs[i]? = some (blk b l e)) (hl : l.length = m) (hz1 : zv.oneCell' = true) (hb : (m + k) * bytes ≤ 140737488355328) (h63 : m + k ≤ maxLen) :
    Ac P n env (Oper.mk dst (.call { callee := .builtin .append, args := #[s, x], argTypes := #[t, tn] }) ty pos aft g) w fun u w' => Keep (· ∈ [b]) w w' ∧ Mem w0 w' F (rs.set i (row u e 1 (m + k) (l ++ List.replicate k zv))) :=
  Ac.of_run fun a ha => by
    subst hq
    obtain ⟨hu, hi0, hsz⟩ := h
    obtain ⟨j, hj, hp⟩ := Option.map_eq_some_iff.1 hi0
    simp only [Prod.mk.injEq] at hp
    obtain ⟨hp1, hp2, hp3⟩ := hp
    obtain ⟨i', hi', h2⟩ := Option.bind_eq_some_iff.1 hzv
    obtain ⟨z, hz, hzc⟩ := Option.map_eq_some_iff.1 h2
    obtain rfl : j = i' := Option.some.inj (hj.symm.trans hi')
    have hblk := M.get hi
    rcases Nat.eq_zero_or_pos k with hk | hk
    · subst hk
      have hw : IntKind.i64.wrap (0 : Int) = 0 := by decide
      refine ⟨.slice (some ⟨b, 0, none⟩) m m, w, ?_, Keep.refl _ _, ?_⟩
      · simp [execOp, resolve, invoke, builtin, ha.eval hs, ha.eval hx, Builtin.append_, run_underlying hu, run_underlying htn, sizeOf, typeInfo, hj, asInt, asIntOf, hw, storeCells]
      · have := M.asRow hi (sz := 1) (m := m) (by simpa using hl) (by omega)
        simpa using this
    · have hold : (Builtin.firstCells j.size m (.slice (some ⟨b, 0, none⟩) m m)).run P w.drew = .ok l.toArray w.drew :=
        run_firstCells_some w.drew j.size m _ m m l (by rw [hp1]; omega) (fun x u hx => by
          have := M.cell (o := x) hi hx
          simpa [add0] using this)
      have hr := Go.Lib.run_append_grow_zeros (P := P) w t tn ty e j z kq kn hu htn hj hz (some ⟨b, 0, none⟩) m m l hold k hk (by omega) (by omega) (by simp only [maxLen] at h63; omega) (by rw [hp2]; have : k * bytes ≤ (m + k) * bytes := Nat.mul_le_mul_right _ (by omega); omega) (growslice_fits (by omega) (by rw [hp2]; exact hb))
      obtain ⟨v', w', hr', rfl, rfl⟩ : ∃ v' w', (Builtin.append_ #[t, tn] ty #[Value.slice (some { block := b, off := 0 }) m m, Value.int kq ↑k]).run P w = .ok v' w' ∧ v' = _ ∧ w' = _ := ⟨_, _, hr, rfl, rfl⟩
      refine ⟨_, _, by simp only [execOp, resolve, invoke, builtin, List.map_toArray, List.map_cons, List.map_nil, ha.eval hs, ha.eval hx, Sem.run_bind, Sem.run_pure, Result.andThen_ok, hr']; rfl, ?_, ?_⟩
      · exact (Keep.drew _ w).trans (Keep.alloc _ _ _)
      · have hge := grownCap_ge w (m + k) m e
        have hcm2 := grownCap_le_maxLen w (m + k) m e h63
        have hzr : ∀ q, (Builtin.zeroCells z.cells q).toList = List.replicate q zv := by
          intro q
          rw [hzc]
          apply List.ext_getElem
          · simp [Builtin.zeroCells]
          · intro x h1 h2
            simp [Builtin.zeroCells, Nat.mod_one]
        refine M.turn hi ((Keep.drew _ w).trans (Keep.alloc _ _ _)) ⟨by simp [hl], .inr ⟨w.heap.size, _, _, rfl, Nat.zero_le _, heap_alloc_new w.drew _, hge, hcm2, ?_, ?_⟩⟩ (by simp [row, Value.ownBlock])
        · have h1 := congrArg List.length (hzr k)
          have h2 := congrArg List.length (hzr (grownCap w (m + k) m e - (m + k)))
          simp only [Array.length_toList, List.length_replicate] at h1 h2
          simp only [Array.size_append, List.size_toArray, h1, h2, hl]
          omega
        · simp only [Array.toList_append, hzr]
          rw [List.take_append_of_le_length (by simp [hl])]
          exact List.take_of_length_le (by simp [hl])
end

/-! ### Cuts, of slices that have an address -/
section
variable {P : Program} {n : Nat} {env : Env} {w : World} {dst : Option Tmp} {ty : TypeId} {pos : String} {aft : Array Edge} {g : Option (Nat × Bool)}
theorem Ex.sllhN {t e : TypeId} {x y z : Operand} {b o l c sz i j : Nat} {k k' : IntKind} (ht : P.underlying t = some (.slice e)) (he : (P.info? e).map (·.size) = some sz) (hx : ev env x = some (.slice (some ⟨b, o, none⟩) l c)) (hy : ev env y = some (.int k (i : Int))) (hz : ev env z = some (.int k' (j : Int))) (h1 : i ≤ j) (h2 : j ≤ c) (h3 : i < c) :
    Ex P n env (Oper.mk dst (.slice t x (some y) (some z) none) ty pos aft g) (.slice (some ⟨b, o + i * sz, none⟩) (j - i) (c - i)) w := by
  have := Ex.sllh (P := P) (n := n) (env := env) (w := w) (dst := dst) (ty := ty) (pos := pos) (aft := aft) (g := g) ht he hx hy hz (by omega) (by omega) (by omega)
  simp only [Int.toNat_natCast, if_neg (show ¬ c = i by omega), Option.map_some, add0] at this
  exact this
theorem Ex.sllN {t e : TypeId} {x y : Operand} {b o l c sz i : Nat} {k : IntKind} (ht : P.underlying t = some (.slice e)) (he : (P.info? e).map (·.size) = some sz) (hx : ev env x = some (.slice (some ⟨b, o, none⟩) l c)) (hy : ev env y = some (.int k (i : Int))) (h1 : i ≤ l) (h3 : i < c) :
    Ex P n env (Oper.mk dst (.slice t x (some y) none none) ty pos aft g) (.slice (some ⟨b, o + i * sz, none⟩) (l - i) (c - i)) w := by
  have := Ex.sll (P := P) (n := n) (env := env) (w := w) (dst := dst) (ty := ty) (pos := pos) (aft := aft) (g := g) ht he hx hy (by omega) (by omega)
  simp only [Int.toNat_natCast, if_neg (show ¬ c = i by omega), Option.map_some, add0] at this
  exact this
end
theorem Res.keep0 {r : Res} {w w' : World} (h : r.sat w) (k : Keep nof w w') : r.sat w' := r.loc w w' h fun b hb => k.block b (r.lt w h b hb) fun f => f
theorem blk_cell {w : World} {g o : Nat} {l : List Value} {e : TypeId} {v : Value} (h : (blk g l e).sat w) (hl : l[o]? = some v) : w.cell? ⟨g, o, none⟩ = some v := by
  have h' : w.heap[g]? = some (.cells l.toArray e (0, 0)) := h
  rw [cell_of_row w g o _ e (0, 0) h']
  simpa using hl
theorem blk_rdt {w : World} {g o m : Nat} {l xs : List Value} {e : TypeId} (h : (blk g l e).sat w) (hx : (l.drop o).take m = xs) : Rd w (some ⟨g, o, none⟩) xs := by
  subst hx
  exact Rd.take (Rd.of_cells fun j u hj => blk_cell h (by rw [← hj, List.getElem?_drop])) m
/-- One part behind the other. -/
theorem okS_step' {pl : Nat → Option (Nat × Nat)} {A z R vs l : List Value} {i : Nat} {v : Value} {r : List (Nat × Value)} {s : List (List Value)} (h1 : pl i = some (A.length, z.length)) (h2 : v.cells = vs.toArray) (h3 : vs.length = z.length) (h : okS pl ((A ++ vs) ++ R) r s l) :
    okS pl (A ++ (z ++ R)) ((i, v) :: r) (vs :: s) l := by
  refine ⟨A.length, z.length, h1, h2, h3, by simp, ?_⟩
  have e : splice (A ++ (z ++ R)) A.length vs = (A ++ vs) ++ R := by simp [splice, h3, List.drop_append]
  rw [e]
  exact h

/-! ### A string's bytes -/
section
variable {P : Program} {n : Nat} {env : Env} {w w0 : World} {F : Nat → Prop} {rs : List Res} {dst : Option Tmp} {ty : TypeId} {pos : String} {aft : Array Edge} {g : Option (Nat × Bool)}
theorem Ac.cvSB (M : Mem w0 w F rs) {s t e : TypeId} {x : Operand} {l : List UInt8} (hs : P.underlying s = some .string) (ht : P.underlying t = some (.slice e)) (he : P.underlying e = some (.int .u8)) (hx : ev env x = some (str l)) :
    Ac P n env (Oper.mk dst (.convert s t x) ty pos aft g) w fun u w' => ∃ b c, u = .slice (some ⟨b, 0, none⟩) l.length c ∧ w.heap.size ≤ b ∧ Keep nof w w' ∧ Mem w0 w' F (dat [b] (some ⟨b, 0, none⟩) l :: rs) :=
  Ac.of_run fun a ha => by
    have hr := run_bytes_of_string (P := P) w s t e ⟨l.toArray⟩ hs ht he
    have hx' := ha.eval hx
    unfold str at hx'
    have hK : Keep nof w (w.drew.alloc (.cells (bytesRow ⟨l.toArray⟩ (grownCap w (ByteArray.mk l.toArray).size 0 e)) e ((bytesRow ⟨l.toArray⟩ (grownCap w (ByteArray.mk l.toArray).size 0 e)).size, (bytesRow ⟨l.toArray⟩ (grownCap w (ByteArray.mk l.toArray).size 0 e)).size + 1))) := (Keep.drew _ w).trans (Keep.alloc _ _ _)
    refine ⟨_, _, by simp only [execOp, hx', Sem.run_bind, hr, Result.andThen_ok, Sem.run_pure]; rfl, w.heap.size, _, rfl, Nat.le_refl _, hK, M.grow hK ?_ (by simp [dat])⟩
    refine ⟨Rd.of_cells fun j u hj => ?_, fun a ha _ => by injection ha with ha; subst ha; simp, by simp⟩
    obtain ⟨c, hc, rfl⟩ : ∃ c, l[j]? = some c ∧ byteV c = u := by simpa [bytesV] using hj
    obtain ⟨h1, h2⟩ := List.getElem?_eq_some_iff.1 hc
    have h3 := bytesRow_at ⟨l.toArray⟩ (grownCap w (ByteArray.mk l.toArray).size 0 e) j (by simpa using h1)
    rw [Nat.zero_add]
    have hg : (w.drew.alloc _).heap[w.heap.size]? = some _ := heap_alloc_new w.drew (.cells (bytesRow ⟨l.toArray⟩ (grownCap w (ByteArray.mk l.toArray).size 0 e)) e ((bytesRow ⟨l.toArray⟩ (grownCap w (ByteArray.mk l.toArray).size 0 e)).size, (bytesRow ⟨l.toArray⟩ (grownCap w (ByteArray.mk l.toArray).size 0 e)).size + 1))
    rw [cell_of_row _ _ j _ _ _ hg, h3]
    simp [byteV, h2]
end
theorem Mem.datrd {w0 w : World} {F : Nat → Prop} {rs : List Res} {D : List Nat} {A : Option Addr} {l : List UInt8} {i : Nat} (M : Mem w0 w F rs) (hi : rs[i]? = some (dat D A l)) : Rd w A (bytesV l) := (M.get hi).1
/-! ### Jumps back -/
section
variable {P : Program} {n : Nat} {Q : Post} {env : Env} {w : World}
theorem WC.goto {l : Nat} (h : WX n Q (.goto l) env w) : WC P n (.goto l) Q env w := fun a ha => wp_goto (h a ha)
theorem WX.goto_then {K : Act → World → Prop} {l : Nat} (h : WX n Q (.goto l) env w) : WX n (Exit.then K Q) (.goto l) env w := fun a ha => h a ha
theorem WX.goto_block {id l : Nat} (h : WX n Q (.goto l) env w) : WX n (Exit.inBlock id Q) (.goto l) env w := fun a ha => h a ha
theorem WX.normal_jump {l : Nat} {J : Act → World → Prop} (h : WX n Q .normal env w) : WX n (Exit.jump l J Q) .normal env w := fun a ha => h a ha
theorem WX.ret_jump {l : Nat} {J : Act → World → Prop} (h : WX n Q .ret env w) : WX n (Exit.jump l J Q) .ret env w := fun a ha => h a ha
theorem WX.exit_jump {l id : Nat} {J : Act → World → Prop} (h : WX n Q (.exit id) env w) : WX n (Exit.jump l J Q) (.exit id) env w := fun a ha => h a ha
theorem WX.goto_first {l : Nat} {σ : Type} {E : σ → Env} {I : σ → World → Prop} (s : σ) (hI : I s w) (hs : Sub env (E s)) : WX n (Exit.jump l (fun a w => ∃ s, I s w ∧ Fit n (E s) a) Q) (.goto l) env w := fun a ha => ⟨rfl, s, hI, ha.sub hs⟩
theorem WX.goto_again {l : Nat} {σ : Type} {E : σ → Env} {I : σ → World → Prop} {μ : σ → Nat} {s : σ} (s' : σ) (hlt : μ s' < μ s) (hI : I s' w) (hs : Sub env (E s')) : WX n (Exit.jump l (fun a w' => ∃ s', μ s' < μ s ∧ I s' w' ∧ Fit n (E s') a) Q) (.goto l) env w := fun a ha => ⟨rfl, s', hlt, hI, ha.sub hs⟩
theorem HQ.jump {l : Nat} {J : Act → World → Prop} (h : HQ Q) : HQ (Exit.jump l J Q) := fun c a d v w => h c a d v w
theorem WC.at_label {l : Nat} {body : Code} (h : WC P n body Q env w) : WC P n (.seq (.label l) body) Q env w := WC.seq (WC.label (WX.next h))
/-- A scope in which the run jumps back to one label. -/
theorem WC.jump {σ : Type} {c body : Code} (l : Nat) (E : σ → Env) (I : σ → World → Prop) (μ : σ → Nat) (hf : findLabel c l = some (.seq .skip body))
    (pass : ∀ s w, I s w → WC P n body (Exit.jump l (fun a' w' => ∃ s', μ s' < μ s ∧ I s' w' ∧ Fit n (E s') a') Q) (E s) w)
    (first : (∀ s w, I s w → WC P n body (Exit.jump l (fun a w => ∃ s, I s w ∧ Fit n (E s) a) Q) (E s) w) → WC P n c (Exit.jump l (fun a w => ∃ s, I s w ∧ Fit n (E s) a) Q) env w) : WC P n (.scope c) Q env w := by
  intro a ha
  have hmono : ∀ s w, I s w → WC P n body (Exit.jump l (fun a w => ∃ s, I s w ∧ Fit n (E s) a) Q) (E s) w := fun s w hI a ha => by
    refine Code.wp_mono (fun e a w q => ?_) (pass s w hI a ha)
    cases e <;> first | exact q | (obtain ⟨h1, s', _, h2, h3⟩ := q; exact ⟨h1, s', h2, h3⟩)
  have hfirst := first hmono a ha
  intro b k cs
  have hg : gotoIn l (.inScope c :: k) = some (.code (.seq .skip body) :: .inScope c :: k) := by simp [gotoIn, hf]
  have key : ∀ m s a w, μ s = m → I s w → Fit n (E s) a → ∃ e a' w', Q e a' w' ∧ Arrives P (lone (b.at a (.code (.seq .skip body) :: .inScope c :: k)) cs w) b k cs e a' w' := by
    intro m
    induction m using Nat.strongRecOn with
    | _ m ih =>
      intro s a w hm hI hF
      have hp : (Code.seq .skip body).wp P (Exit.jump l (fun a' w' => ∃ s', μ s' < μ s ∧ I s' w' ∧ Fit n (E s') a') Q) a w := wp_seq (wp_skip (pass s w hI a hF))
      obtain ⟨e, a₁, w₁, hq, harr⟩ := hp b (.inScope c :: k) cs
      cases e with
      | normal => exact ⟨.normal, a₁, w₁, hq, Steps.trans harr (.one step_inScope)⟩
      | exit id => exact ⟨.exit id, a₁, w₁, hq, fun k' hk => harr k' (by simp [exitTo, hk])⟩
      | goto l' =>
        obtain ⟨rfl, s', hlt, hI', hF'⟩ := hq
        obtain ⟨e₂, a₂, w₂, hq₂, harr₂⟩ := ih (μ s') (hm ▸ hlt) s' a₁ w₁ rfl hI' hF'
        exact ⟨e₂, a₂, w₂, hq₂, .of_steps (harr _ hg) harr₂⟩
      | ret => exact ⟨_, a₁, w₁, hq, harr⟩
      | panic ch => exact ⟨_, a₁, w₁, hq, harr⟩
      | outgrown => exact ⟨_, a₁, w₁, hq, harr⟩
  obtain ⟨e, a₁, w₁, hq, harr⟩ := hfirst b (.inScope c :: k) cs
  cases e with
  | normal => exact ⟨.normal, a₁, w₁, hq, .head step_scope (Steps.trans harr (.one step_inScope))⟩
  | exit id => exact ⟨.exit id, a₁, w₁, hq, fun k' hk => .head step_scope (harr k' (by simp [exitTo, hk]))⟩
  | goto l' =>
    obtain ⟨rfl, s, hI, hF⟩ := hq
    obtain ⟨e₂, a₂, w₂, hq₂, harr₂⟩ := key _ s a₁ w₁ rfl hI hF
    exact ⟨e₂, a₂, w₂, hq₂, .of_steps (.head step_scope (harr _ hg)) harr₂⟩
  | ret => exact ⟨_, a₁, w₁, hq, .of_steps (.one step_scope) harr⟩
  | panic ch => exact ⟨_, a₁, w₁, hq, .of_steps (.one step_scope) harr⟩
  | outgrown => exact ⟨_, a₁, w₁, hq, .of_steps (.one step_scope) harr⟩
end

/-! ### Numbers of 32 bits -/
section
variable {P : Program} {n : Nat} {env : Env} {w : World} {dst : Option Tmp} {ty : TypeId} {pos : String} {aft : Array Edge} {g : Option (Nat × Bool)}
theorem Ex.neg {t : TypeId} {x : Operand} {k : IntKind} {p c : Int} (hx : ev env x = some (.int k p)) (hc : k.wrap (0 - p) = c) : Ex P n env (Oper.mk dst (.unOp .neg t x) ty pos aft g) (.int k c) w := fun a ha => by
  subst hc
  simp [execOp, ha.eval hx, Op.unary, Op.intArith]
theorem Ex.com {t : TypeId} {x : Operand} {k : IntKind} {p c : Int} (hk : k.signed = false) (hx : ev env x = some (.int k p)) (hc : bits .xor k k.max p = c) : Ex P n env (Oper.mk dst (.unOp .xor t x) ty pos aft g) (.int k c) w := fun a ha => by
  subst hc
  simp [execOp, ha.eval hx, Op.unary, hk, Op.intBits, bits]
end
end Go.Sx
