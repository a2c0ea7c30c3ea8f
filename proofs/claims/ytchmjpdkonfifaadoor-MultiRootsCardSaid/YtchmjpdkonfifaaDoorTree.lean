/- Trees of sums: the plain words; levels as rows of their own. My own text. -/
import Derived.Test.YtchmjpdkonfifaaDoorExt
set_option linter.unusedVariables false
set_option linter.unusedSimpArgs false
namespace Go.Sx
open Go.RowKit
section
variable {α : Type} (N : α → α → α) (e : α)
def emp : Nat → α
  | 0 => e
  | k + 1 => N (emp k) (emp k)
/-- The node of level k at place p. -/
def nd (ls : List α) : Nat → Nat → α
  | 0, p => ls.getD p e
  | k + 1, p => N (nd ls k (2 * p)) (nd ls k (2 * p + 1))
def levOf (ls : List α) (k : Nat) : List α := (List.range (ls.length / 2 ^ k)).map (nd N e ls k)
def lvM (d : Nat) (ls ls' : List α) (k : Nat) : List (List α) := (List.range (d + 1)).map fun j => if j < k then levOf N e ls' j else levOf N e ls j
def lvOf (d : Nat) (ls : List α) : List (List α) := (List.range (d + 1)).map (levOf N e ls)
def emps (m : Nat) : List α := (List.range m).map (emp N e)
variable {N e}
theorem nd_emp {ls : List α} : ∀ (k p : Nat), ls.length ≤ p * 2 ^ k → nd N e ls k p = emp N e k
  | 0, p, h => by
    simp only [Nat.pow_zero, Nat.mul_one] at h
    simp only [nd, emp, List.getD]
    rw [List.getElem?_eq_none h]
    rfl
  | k + 1, p, h => by
    have h2 : p * 2 ^ (k + 1) = 2 * p * 2 ^ k := by rw [Nat.pow_succ, Nat.mul_comm (2 ^ k) 2, ← Nat.mul_assoc, Nat.mul_comm p 2]
    rw [nd, emp, nd_emp k (2 * p) (by omega), nd_emp k (2 * p + 1) (by rw [Nat.add_mul]; omega)]
theorem nd_congr {ls ls' : List α} : ∀ (k p : Nat), (∀ i, i < (p + 1) * 2 ^ k → ls.getD i e = ls'.getD i e) → nd N e ls k p = nd N e ls' k p
  | 0, p, h => by
    simp only [nd]
    exact h p (by simp)
  | k + 1, p, h => by
    have h2 : (p + 1) * 2 ^ (k + 1) = (2 * p + 1 + 1) * 2 ^ k := by rw [Nat.pow_succ, Nat.mul_comm (2 ^ k) 2, ← Nat.mul_assoc]; congr 1; omega
    have h3 : (2 * p + 1) * 2 ^ k ≤ (2 * p + 1 + 1) * 2 ^ k := Nat.mul_le_mul_right _ (by omega)
    rw [nd, nd, nd_congr k (2 * p) (fun i hi => h i (by omega)), nd_congr k (2 * p + 1) (fun i hi => h i (by omega))]
theorem nd_take {ls : List α} {n k p : Nat} (h : (p + 1) * 2 ^ k ≤ n) : nd N e (ls.take n) k p = nd N e ls k p :=
  nd_congr k p fun i hi => by simp only [List.getD]; rw [List.getElem?_take_of_lt (by omega)]
theorem nd_snoc {ls : List α} {h : α} {k p : Nat} (hp : (p + 1) * 2 ^ k ≤ ls.length) : nd N e (ls ++ [h]) k p = nd N e ls k p :=
  nd_congr k p fun i hi => by simp only [List.getD]; rw [List.getElem?_append_left (by omega)]
theorem lt_div {p n k : Nat} (h : p < n / 2 ^ k) : (p + 1) * 2 ^ k ≤ n := (Nat.le_div_iff_mul_le (Nat.pow_pos (by decide))).1 h
theorem levOf_len (ls : List α) (k : Nat) : (levOf N e ls k).length = ls.length / 2 ^ k := by simp [levOf]
theorem levOf_get {ls : List α} {k p : Nat} (h : p < ls.length / 2 ^ k) : (levOf N e ls k)[p]? = some (nd N e ls k p) := by
  rw [levOf, List.getElem?_map, List.getElem?_range h]; rfl
theorem levOf_zero (ls : List α) : levOf N e ls 0 = ls := by
  apply List.ext_getElem?
  intro i
  rcases Nat.lt_or_ge i ls.length with h | h
  · rw [levOf_get (by simpa using h)]
    simp [nd, List.getD, List.getElem?_eq_getElem h]
  · rw [List.getElem?_eq_none (by rw [levOf_len]; simpa using h), List.getElem?_eq_none h]
theorem levOf_take {ls : List α} {n : Nat} (h : n ≤ ls.length) (k : Nat) : (levOf N e ls k).take (n / 2 ^ k) = levOf N e (ls.take n) k := by
  have hle : n / 2 ^ k ≤ ls.length / 2 ^ k := Nat.div_le_div_right h
  apply List.ext_getElem?
  intro i
  rcases Nat.lt_or_ge i (n / 2 ^ k) with hi | hi
  · rw [List.getElem?_take_of_lt hi, levOf_get (by omega), levOf_get (by rw [List.length_take, Nat.min_eq_left h]; exact hi), nd_take (lt_div hi)]
  · rw [List.getElem?_eq_none (by rw [List.length_take]; omega), List.getElem?_eq_none (by rw [levOf_len, List.length_take, Nat.min_eq_left h]; exact hi)]
theorem levOf_snoc {ls : List α} {h : α} {k : Nat} (hm : (ls.length + 1) % 2 ^ k = 0) : levOf N e (ls ++ [h]) k = levOf N e ls k ++ [nd N e (ls ++ [h]) k (ls.length / 2 ^ k)] := by
  have hd : (ls.length + 1) / 2 ^ k = ls.length / 2 ^ k + 1 := by rw [Nat.succ_div, if_pos (Nat.dvd_of_mod_eq_zero hm)]
  rw [levOf, List.length_append, List.length_singleton, hd, List.range_succ, List.map_append, levOf]
  congr 1
  apply List.map_congr_left
  intro p hp
  exact nd_snoc (lt_div (List.mem_range.1 hp))
theorem levOf_same {ls : List α} {h : α} {j : Nat} (hm : (ls.length + 1) % 2 ^ j ≠ 0) : levOf N e (ls ++ [h]) j = levOf N e ls j := by
  have hd : (ls.length + 1) / 2 ^ j = ls.length / 2 ^ j := by rw [Nat.succ_div, if_neg (fun hd => hm (Nat.mod_eq_zero_of_dvd hd))]; rfl
  rw [levOf, List.length_append, List.length_singleton, hd, levOf]
  apply List.map_congr_left
  intro p hp
  exact nd_snoc (lt_div (List.mem_range.1 hp))
theorem lvM_len (d : Nat) (ls ls' : List α) (k : Nat) : (lvM N e d ls ls' k).length = d + 1 := by simp [lvM]
theorem lvM_get {d : Nat} {ls ls' : List α} {k : Nat} (j : Nat) (h : j ≤ d) : (lvM N e d ls ls' k)[j]? = some (if j < k then levOf N e ls' j else levOf N e ls j) := by
  rw [lvM, List.getElem?_map, List.getElem?_range (by omega)]; rfl
theorem lvM_zero (d : Nat) (ls ls' : List α) : lvM N e d ls ls' 0 = lvOf N e d ls := by simp [lvM, lvOf]
theorem lvOf_get {d : Nat} {ls : List α} {j : Nat} (h : j ≤ d) : (lvOf N e d ls)[j]? = some (levOf N e ls j) := by
  rw [lvOf, List.getElem?_map, List.getElem?_range (by omega)]; rfl
theorem lvOf_len (d : Nat) (ls : List α) : (lvOf N e d ls).length = d + 1 := by simp [lvOf]
theorem lvM_full {d : Nat} {ls ls' : List α} {k : Nat} (h : ∀ j, j ≤ d → k ≤ j → levOf N e ls' j = levOf N e ls j) : lvM N e d ls ls' k = lvOf N e d ls' := by
  rw [lvM, lvOf]
  apply List.map_congr_left
  intro j hj
  have := List.mem_range.1 hj
  split
  · rfl
  · exact (h j (by omega) (by omega)).symm
theorem lvM_set {d : Nat} {ls ls' : List α} {k : Nat} (h : k ≤ d) : (lvM N e d ls ls' k).set k (levOf N e ls' k) = lvM N e d ls ls' (k + 1) := by
  apply List.ext_getElem?
  intro j
  rcases Nat.lt_or_ge d j with hj | hj
  · rw [List.getElem?_eq_none (by rw [List.length_set, lvM_len]; omega), List.getElem?_eq_none (by rw [lvM_len]; omega)]
  · rcases Nat.lt_trichotomy j k with hk | hk | hk
    · rw [List.getElem?_set_ne (by omega), lvM_get j hj, lvM_get j hj, if_pos hk, if_pos (by omega)]
    · subst hk
      rw [List.getElem?_set_self (by rw [lvM_len]; omega), lvM_get j hj, if_pos (by omega)]
    · rw [List.getElem?_set_ne (by omega), lvM_get j hj, lvM_get j hj, if_neg (by omega), if_neg (by omega)]
/-- A leaf more: the levels above the last that is even stay. -/
theorem lvM_done {d : Nat} {ls : List α} {h : α} {k : Nat} (hm : (ls.length + 1) % 2 ^ k = 0) (ho : (ls.length + 1) / 2 ^ k % 2 = 1 ∨ d ≤ k) : lvM N e d ls (ls ++ [h]) (k + 1) = lvOf N e d (ls ++ [h]) :=
  lvM_full fun j hj hk => levOf_same fun h0 => by
    rcases ho with ho | ho
    · have h1 : 2 ^ (k + 1) ∣ ls.length + 1 := Nat.dvd_trans (Nat.pow_dvd_pow 2 hk) (Nat.dvd_of_mod_eq_zero h0)
      obtain ⟨c, hc⟩ := h1
      rw [hc, Nat.pow_succ, Nat.mul_assoc, Nat.mul_div_cancel_left _ (Nat.pow_pos (by decide))] at ho
      omega
    · omega
theorem up_mod {n k : Nat} (hm : n % 2 ^ k = 0) (he : n / 2 ^ k % 2 = 0) : n % 2 ^ (k + 1) = 0 := by
  obtain ⟨c, rfl⟩ := Nat.dvd_of_mod_eq_zero hm
  rw [Nat.mul_div_cancel_left _ (Nat.pow_pos (by decide))] at he
  obtain ⟨q, rfl⟩ := Nat.dvd_of_mod_eq_zero he
  rw [Nat.pow_succ, ← Nat.mul_assoc]
  exact Nat.mul_mod_right _ _
theorem div_up (n k : Nat) : n / 2 ^ (k + 1) = n / 2 ^ k / 2 := by rw [Nat.pow_succ, Nat.div_div_eq_div_mul]
/-- The sum that goes one level up. -/
theorem nd_up {ls : List α} {k n : Nat} (hm : (n + 1) % 2 ^ k = 0) (he : (n + 1) / 2 ^ k % 2 = 0) :
    nd N e ls (k + 1) (n / 2 ^ (k + 1)) = N (nd N e ls k ((n + 1) / 2 ^ k - 2)) (nd N e ls k ((n + 1) / 2 ^ k - 1)) := by
  have h1 : (n + 1) / 2 ^ k = n / 2 ^ k + 1 := by rw [Nat.succ_div, if_pos (Nat.dvd_of_mod_eq_zero hm)]
  rw [nd, div_up, h1]
  rw [h1] at he
  generalize n / 2 ^ k = q at he ⊢
  rw [show 2 * (q / 2) = q + 1 - 2 by omega, show q + 1 - 2 + 1 = q + 1 - 1 by omega]
/-- Along the edge. -/
theorem nd_odd {ls : List α} {k n : Nat} (ho : n / 2 ^ k % 2 = 1) : nd N e ls (k + 1) (n / 2 ^ (k + 1)) = N (nd N e ls k (n / 2 ^ k - 1)) (nd N e ls k (n / 2 ^ k)) := by
  rw [nd, div_up]
  generalize n / 2 ^ k = q at ho ⊢
  rw [show 2 * (q / 2) = q - 1 by omega, show q - 1 + 1 = q by omega]
theorem nd_even {ls : List α} {k n : Nat} (hl : ls.length ≤ n) (ho : n / 2 ^ k % 2 = 0) : nd N e ls (k + 1) (n / 2 ^ (k + 1)) = N (nd N e ls k (n / 2 ^ k)) (emp N e k) := by
  have h1 : n < (n / 2 ^ k + 1) * 2 ^ k := by
    rw [Nat.mul_comm]
    exact Nat.lt_mul_div_succ n (Nat.pow_pos (by decide))
  have h2 := nd_emp (N := N) (e := e) (ls := ls) k (n / 2 ^ k + 1) (by omega)
  rw [nd, div_up]
  generalize n / 2 ^ k = q at ho h2 ⊢
  rw [show 2 * (q / 2) = q by omega, h2]
theorem emps_get {m k : Nat} (h : k < m) : (emps N e m)[k]? = some (emp N e k) := by
  rw [emps, List.getElem?_map, List.getElem?_range h]; rfl
theorem emps_len (m : Nat) : (emps N e m).length = m := by simp [emps]
theorem nd_all {Q : α → Prop} (hN : ∀ a b, Q (N a b)) (he : Q e) {ls : List α} (hl : ∀ a ∈ ls, Q a) : ∀ k p, Q (nd N e ls k p)
  | 0, p => by
    simp only [nd, List.getD]
    cases h : ls[p]? with
    | none => exact he
    | some a => exact hl a (List.mem_of_getElem? h)
  | k + 1, p => hN _ _
theorem emp_all {Q : α → Prop} (hN : ∀ a b, Q (N a b)) (he : Q e) : ∀ k, Q (emp N e k)
  | 0 => he
  | k + 1 => hN _ _
end
/-! ### Levels -/
abbrev Hs := List (List UInt8)
def fl (l : Hs) : List Value := l.flatMap bytesV
structure LevS (w : World) (vs : List Value) (lv : List Hs) (e : TypeId) : Prop where
  len : vs.length = lv.length
  row : ∀ (k : Nat) v l, vs[k]? = some v → lv[k]? = some l → w.ownsRow 0 e 32 v l.length (fl l)
  dis : ∀ (i j : Nat) v u, i ≠ j → vs[i]? = some v → vs[j]? = some u → ∀ b, v.ownBlock = some b → u.ownBlock ≠ some b
theorem mem_fp {vs : List Value} {b : Nat} (h : b ∈ vs.flatMap fun v : Value => v.ownBlock.toList) : ∃ (k : Nat) (v : Value), vs[k]? = some v ∧ v.ownBlock = some b := by
  obtain ⟨v, hv, hb⟩ := List.mem_flatMap.1 h
  obtain ⟨k, hk⟩ := List.getElem?_of_mem hv
  exact ⟨k, v, hk, by simpa using hb⟩
theorem fp_mem {vs : List Value} {b k : Nat} {v : Value} (hk : vs[k]? = some v) (hb : v.ownBlock = some b) : b ∈ vs.flatMap fun v : Value => v.ownBlock.toList :=
  List.mem_flatMap.2 ⟨v, List.mem_of_getElem? hk, by simp [hb]⟩
theorem LevS.other {w w' : World} {vs : List Value} {lv : List Hs} {e : TypeId} (h : LevS w vs lv e) (hk : ∀ b ∈ vs.flatMap (fun v : Value => v.ownBlock.toList), w'.heap[b]? = w.heap[b]?) : LevS w' vs lv e :=
  ⟨h.len, fun k v l hv hl => (Go.Sx.row v e 32 l.length (fl l)).loc w w' (h.row k v l hv hl) fun b hb => hk b (fp_mem hv (by simpa [Go.Sx.row] using hb)), h.dis⟩
def levR (vs : List Value) (lv : List Hs) (e : TypeId) : Res where
  fp := vs.flatMap fun v : Value => v.ownBlock.toList
  sat w := LevS w vs lv e
  lt w h b hb := by
    obtain ⟨k, v, hv, hb⟩ := mem_fp hb
    have hk := (List.getElem?_eq_some_iff.1 hv).1
    have hl : lv[k]? = some (lv[k]'(by rw [← h.len]; exact hk)) := List.getElem?_eq_getElem _
    exact ((h.row k v _ hv hl).lt b hb).2
  loc w w' h hk := LevS.other h hk
/-- One level is turned. -/
theorem LevS.turn {w w' : World} {vs : List Value} {lv : List Hs} {e : TypeId} (h : LevS w vs lv e) {k : Nat} {v u : Value} {l l' : Hs} (hv : vs[k]? = some v) (hl : lv[k]? = some l) (K : Keep (· ∈ v.ownBlock.toList) w w')
    (hr : w'.ownsRow 0 e 32 u l'.length (fl l')) (hf : ∀ b, u.ownBlock = some b → v.ownBlock = some b ∨ w.heap.size ≤ b) : LevS w' (vs.set k u) (lv.set k l') e := by
  have hlt : ∀ (i : Nat) x, vs[i]? = some x → ∀ b, x.ownBlock = some b → b < w.heap.size := fun i x hx b hb => (levR vs lv e).lt w h b (fp_mem hx hb)
  refine ⟨by rw [List.length_set, List.length_set, h.len], fun i x m hx hm => ?_, fun i j x y hij hx hy b hb => ?_⟩
  · by_cases hi : i = k
    · subst hi
      rw [List.getElem?_set_self (List.getElem?_eq_some_iff.1 hv).1] at hx
      rw [List.getElem?_set_self (List.getElem?_eq_some_iff.1 hl).1] at hm
      obtain rfl := Option.some.inj hx
      obtain rfl := Option.some.inj hm
      exact hr
    · rw [List.getElem?_set_ne (Ne.symm hi)] at hx hm
      refine (Go.Sx.row x e 32 m.length (fl m)).loc w w' (h.row i x m hx hm) fun b hb => ?_
      have hb' : x.ownBlock = some b := by simpa [Go.Sx.row] using hb
      exact K.block b (hlt i x hx b hb') (fun hm => h.dis i k x v hi hx hv b hb' (by simpa using hm))
  · have hh : ∀ (i : Nat) x, (vs.set k u)[i]? = some x → (i = k ∧ x = u) ∨ (i ≠ k ∧ vs[i]? = some x) := fun i x hx => by
      by_cases hi : i = k
      · subst hi
        rw [List.getElem?_set_self (List.getElem?_eq_some_iff.1 hv).1] at hx
        exact .inl ⟨rfl, (Option.some.inj hx).symm⟩
      · rw [List.getElem?_set_ne (Ne.symm hi)] at hx
        exact .inr ⟨hi, hx⟩
    intro hc
    rcases hh i x hx with ⟨hik, hxu⟩ | ⟨hi, hx2⟩
    · rcases hh j y hy with ⟨hjk, hyu⟩ | ⟨hj, hy2⟩
      · exact hij (hik.trans hjk.symm)
      · rcases hf b (hxu ▸ hb) with h1 | h1
        · exact h.dis k j v y (Ne.symm hj) hv hy2 b h1 hc
        · have := hlt j y hy2 b hc; omega
    · rcases hh j y hy with ⟨hjk, hyu⟩ | ⟨hj, hy2⟩
      · rcases hf b (hyu ▸ hc) with h1 | h1
        · exact h.dis i k x v hi hx2 hv b hb h1
        · have := hlt i x hx2 b hb; omega
      · exact h.dis i j x y hij hx2 hy2 b hb hc
theorem lev_fresh {w : World} {vs : List Value} {k : Nat} {v u : Value} (hv : vs[k]? = some v) (hf : ∀ b, u.ownBlock = some b → v.ownBlock = some b ∨ w.heap.size ≤ b) :
    ∀ b ∈ (vs.set k u).flatMap (fun v : Value => v.ownBlock.toList), b ∈ vs.flatMap (fun v : Value => v.ownBlock.toList) ∨ w.heap.size ≤ b := by
  intro b hb
  obtain ⟨i, x, hx, hb⟩ := mem_fp hb
  by_cases hi : i = k
  · subst hi
    rw [List.getElem?_set_self (List.getElem?_eq_some_iff.1 hv).1] at hx
    obtain rfl := Option.some.inj hx
    exact (hf b hb).imp_left fun h => fp_mem hv h
  · rw [List.getElem?_set_ne (Ne.symm hi)] at hx
    exact .inl (fp_mem hx hb)
section
variable {P : Program} {n : Nat} {env : Env} {w0 w w' : World} {F : Nat → Prop} {rs : List Res} {dst : Option Nat} {ty : TypeId} {pos : String} {aft : Array Edge} {g : Option (Nat × Bool)}
theorem Mem.turnL (M : Mem w0 w F rs) {i k : Nat} {vs : List Value} {lv : List Hs} {e : TypeId} {v u : Value} {l l' : Hs} (hi : rs[i]? = some (levR vs lv e)) (hv : vs[k]? = some v) (hl : lv[k]? = some l) (K : Keep (· ∈ v.ownBlock.toList) w w')
    (hr : w'.ownsRow 0 e 32 u l'.length (fl l')) (hf : ∀ b, u.ownBlock = some b → v.ownBlock = some b ∨ w.heap.size ≤ b) : Mem w0 w' F (rs.set i (levR (vs.set k u) (lv.set k l') e)) :=
  M.turn hi (K.mono fun b _ hb => fp_mem hv (by simpa using hb)) (LevS.turn (M.get hi) hv hl K hr hf) (lev_fresh hv hf)
theorem fl_len {l : Hs} (h : ∀ a ∈ l, a.length = 32) : (fl l).length = l.length * 32 := flat_len fun a ha => by simpa using h a ha
theorem fl_one (l : Hs) : ∀ u ∈ fl l, u.oneCell' = true := fun u hu => by
  obtain ⟨a, _, h⟩ := List.mem_flatMap.1 hu
  exact bytesV_one a u h
theorem Ac.appL {t e : TypeId} {bytes : Nat} {vs : List Value} {lv : List Hs} (hL : LevS w vs lv e) (h : El P t e 32 bytes) {s x : Operand} {k c : Nat} {v : Value} {l : Hs} {A : Option Addr} {b : List UInt8}
    (hs : ev env s = some v) (hx : ev env x = some (.slice A 1 c)) (hv : vs[k]? = some v) (hl : lv[k]? = some l) (hb : b.length = 32) (hr : Rd w A (bytesV b)) (hn : (l.length + 1) * bytes ≤ 140737488355328) (h63 : l.length + 1 ≤ maxLen) :
    Ac P n env (Oper.mk dst (.call { callee := .builtin .append, args := #[s, x], argTypes := #[t, t] }) ty pos aft g) w fun u w' => Turn w w' (levR vs lv e) (levR (vs.set k u) (lv.set k (l ++ [b])) e) :=
  Ac.of_run fun a ha => by
    obtain ⟨v', w', h2, h3, h4, h5⟩ := run_app (c := c) h ty (LevS.row hL k v l hv hl) (by simp [hb]) hr (bytesV_one b) hn h63
    have hf : ∀ b, v'.ownBlock = some b → v.ownBlock = some b ∨ w.heap.size ≤ b := fun b hb => by
      have := h5 b (by simp [Go.Sx.row, hb])
      simpa [Go.Sx.row] using this
    refine ⟨v', w', by simp [execOp, resolve, invoke, builtin, ha.eval hs, ha.eval hx, h2], h4.mono fun b _ hb => fp_mem hv (by simpa [Go.Sx.row] using hb), LevS.turn hL hv hl h4 ?_ hf, lev_fresh hv hf⟩
    have e1 : fl (l ++ [b]) = fl l ++ bytesV b := by simp [fl]
    rw [List.length_append, List.length_singleton, e1]
    exact h3
theorem LevS.slice {vs : List Value} {lv : List Hs} {e : TypeId} {k : Nat} {u : Value} {l : Hs} (h : LevS w (vs.set k u) (lv.set k l) e) (hk : k < vs.length) : ∃ A c, u = .slice A l.length c := by
  have h2 := h.len
  rw [List.length_set, List.length_set] at h2
  exact own_slice (h.row k u l (List.getElem?_set_self hk) (List.getElem?_set_self (by omega)))
/-- A new row goes into a level that has none. -/
theorem Mem.putL (M : Mem w0 w F rs) {k : Nat} {vs : List Value} {lv : List Hs} {e : TypeId} {v u : Value} {l : Hs} {r : List Res} (hrs : rs = Go.Sx.row u e 32 l.length (fl l) :: levR vs lv e :: r) (hv : vs[k]? = some v) (hl : k < lv.length) (hn : v.ownBlock = none) : Mem w0 w F (levR (vs.set k u) (lv.set k l) e :: r) := by
  subst hrs
  have M2 := M.closeS
  have hs : (sep (Go.Sx.row u e 32 l.length (fl l)) (levR vs lv e)).sat w := M2.sat _ (by simp)
  have hlv : lv[k]? = some lv[k] := List.getElem?_eq_getElem hl
  have hu : ∀ (i : Nat) x, vs[i]? = some x → ∀ b, x.ownBlock = some b → u.ownBlock ≠ some b := fun i x hx b hb hc => hs.2.2 b (by simp [Go.Sx.row, hc]) (fp_mem hx hb)
  refine M2.turn0 ⟨by rw [List.length_set, List.length_set, hs.2.1.len], fun i x m hx hm => ?_, fun i j x y hij hx hy b hb hc => ?_⟩ fun b hb => ?_
  · by_cases hi : i = k
    · subst hi
      rw [List.getElem?_set_self (List.getElem?_eq_some_iff.1 hv).1] at hx
      rw [List.getElem?_set_self hl] at hm
      obtain rfl := Option.some.inj hx
      obtain rfl := Option.some.inj hm
      exact hs.1
    · rw [List.getElem?_set_ne (Ne.symm hi)] at hx hm
      exact hs.2.1.row i x m hx hm
  · have hh : ∀ (i : Nat) x, (vs.set k u)[i]? = some x → (i = k ∧ x = u) ∨ (i ≠ k ∧ vs[i]? = some x) := fun i x hx => by
      by_cases hi : i = k
      · subst hi
        rw [List.getElem?_set_self (List.getElem?_eq_some_iff.1 hv).1] at hx
        exact .inl ⟨rfl, (Option.some.inj hx).symm⟩
      · rw [List.getElem?_set_ne (Ne.symm hi)] at hx
        exact .inr ⟨hi, hx⟩
    rcases hh i x hx with ⟨hik, hxu⟩ | ⟨hi, hx2⟩
    · rcases hh j y hy with ⟨hjk, hyu⟩ | ⟨hj, hy2⟩
      · exact hij (hik.trans hjk.symm)
      · exact hu j y hy2 b hc (hxu ▸ hb)
    · rcases hh j y hy with ⟨hjk, hyu⟩ | ⟨hj, hy2⟩
      · exact hu i x hx2 b hb (hyu ▸ hc)
      · exact hs.2.1.dis i j x y hij hx2 hy2 b hb hc
  · obtain ⟨i, x, hx, hb⟩ := mem_fp hb
    show b ∈ (Go.Sx.row u e 32 l.length (fl l)).fp ++ (levR vs lv e).fp
    by_cases hi : i = k
    · subst hi
      rw [List.getElem?_set_self (List.getElem?_eq_some_iff.1 hv).1] at hx
      obtain rfl := Option.some.inj hx
      exact List.mem_append_left _ (by simp [Go.Sx.row, hb])
    · rw [List.getElem?_set_ne (Ne.symm hi)] at hx
      exact List.mem_append_right _ (fp_mem hx hb)
/-- Some of what is owned, in another order. -/
theorem Mem.pick : ∀ {rs' : List Res} (M : Mem w0 w F rs) (is : List Nat) (hn : is.Nodup) (hr : is.map (rs[·]?) = rs'.map some), Mem w0 w F rs' := by
  intro rs' M is hn hr
  have hmem : ∀ (is : List Nat) (rs' : List Res), is.map (rs[·]?) = rs'.map some → ∀ r ∈ rs', ∃ i ∈ is, rs[i]? = some r := by
    intro is rs' hr r h
    have h2 : some r ∈ rs'.map some := List.mem_map.2 ⟨r, h, rfl⟩
    rw [← hr] at h2
    obtain ⟨i, hi, he⟩ := List.mem_map.1 h2
    exact ⟨i, hi, he⟩
  refine ⟨M.keep, fun r h => ?_, fun r h => ?_, ?_⟩
  · obtain ⟨i, _, he⟩ := hmem is rs' hr r h
    exact M.sat r (List.mem_of_getElem? he)
  · obtain ⟨i, _, he⟩ := hmem is rs' hr r h
    exact M.own r (List.mem_of_getElem? he)
  · have key : ∀ (is : List Nat) (rs' : List Res), is.Nodup → is.map (rs[·]?) = rs'.map some → rs'.Pairwise fun r s => ∀ b ∈ r.fp, b ∉ s.fp := by
      intro is
      induction is with
      | nil =>
        intro rs' _ hr
        cases rs' with
        | nil => exact List.Pairwise.nil
        | cons a l => simp at hr
      | cons i is ih =>
        intro rs' hn hr
        cases rs' with
        | nil => simp at hr
        | cons a l =>
          simp only [List.map_cons, List.cons.injEq] at hr
          have hn2 := List.nodup_cons.1 hn
          refine List.pairwise_cons.2 ⟨fun s hs b hb => ?_, ih l hn2.2 hr.2⟩
          obtain ⟨j, hj, he⟩ := hmem is l hr.2 s hs
          exact M.apart hr.1 he (fun e => hn2.1 (e ▸ hj)) b hb
    exact key is rs' hn hr
theorem own_cut {A : Option Addr} {c n m : Nat} {e : TypeId} {sz : Nat} {xs : List Value} (h : w.ownsRow 0 e sz (.slice A n c) n xs) (hm : m ≤ n) : w.ownsRow 0 e sz (.slice A m c) m (xs.take (m * sz)) := by
  refine ⟨by rw [List.length_take, h.1]; exact Nat.min_eq_left (Nat.mul_le_mul_right _ hm), ?_⟩
  rcases h.2 with ⟨hv, hn⟩ | ⟨g, cap, cur, hv, hb, hg, hnc, hcm, hsz, hcur⟩
  · simp only [Value.slice.injEq] at hv
    obtain ⟨rfl, _, rfl⟩ := hv
    subst hn
    obtain rfl : m = 0 := by omega
    exact .inl ⟨rfl, rfl⟩
  · simp only [Value.slice.injEq] at hv
    obtain ⟨rfl, _, rfl⟩ := hv
    refine .inr ⟨g, c, cur, rfl, hb, hg, by omega, hcm, hsz, ?_⟩
    rw [← hcur, List.take_take, Nat.min_eq_left (Nat.mul_le_mul_right _ hm)]
theorem fl_take {l : Hs} (h : ∀ a ∈ l, a.length = 32) (m : Nat) : fl (l.take m) = (fl l).take (m * 32) := by
  have e : fl l = fl (l.take m) ++ fl (l.drop m) := by rw [fl, fl, fl, ← List.flatMap_append, List.take_append_drop]
  rw [e]
  rcases Nat.le_total m l.length with hm | hm
  · have h1 : (fl (l.take m)).length = m * 32 := by rw [fl_len (fun a ha => h a (List.mem_of_mem_take ha)), List.length_take, Nat.min_eq_left hm]
    rw [← h1, List.take_left]
  · rw [List.take_of_length_le hm, List.drop_of_length_le hm]
    have h1 := fl_len h
    have h2 : l.length * 32 ≤ m * 32 := Nat.mul_le_mul_right _ hm
    rw [List.take_of_length_le (by simp [fl] at h1 ⊢; omega)]
    simp [fl]
/-- A level is cut. -/
theorem Mem.cutL (M : Mem w0 w F rs) {i k m : Nat} {vs : List Value} {lv : List Hs} {e : TypeId} {A : Option Addr} {c : Nat} {l : Hs} (hi : rs[i]? = some (levR vs lv e)) (hv : vs[k]? = some (.slice A l.length c)) (hl : lv[k]? = some l) (h32 : ∀ a ∈ l, a.length = 32) (hm : m ≤ l.length) :
    Mem w0 w F (rs.set i (levR (vs.set k (.slice A m c)) (lv.set k (l.take m)) e)) := by
  refine M.turnL hi hv hl (Keep.refl _ _) ?_ fun b hb => .inl (by cases A with | none => cases hb | some a => exact hb)
  rw [List.length_take, Nat.min_eq_left hm, fl_take h32]
  exact own_cut (LevS.row (M.get hi) k _ _ hv hl) hm
theorem made_rep (v : Value) (m n : Nat) (hm : 0 < m) : (madeCells (List.replicate m v).toArray n).toList = List.replicate n v := by
  refine List.eq_replicate_iff.2 ⟨by simp [madeCells], fun b hb => ?_⟩
  simp only [madeCells, Array.toList_map, List.mem_map] at hb
  obtain ⟨i, _, rfl⟩ := hb
  have h1 : i % (List.replicate m v).toArray.size < (List.replicate m v).toArray.size := Nat.mod_lt _ (by simpa using hm)
  rw [getElem!_pos (List.replicate m v).toArray _ h1]
  simp
theorem made1 (z : Value) (n : Nat) : (madeCells #[z] n).toList = List.replicate n z := made_rep z 1 n (by decide)
theorem made32 (n : Nat) (a : UInt8) : (madeCells (bytesV (List.replicate 32 a)).toArray (n * 32)).toList = fl (List.replicate n (List.replicate 32 a)) := by
  rw [show bytesV (List.replicate 32 a) = List.replicate 32 (byteV a) from List.map_replicate, made_rep _ _ _ (by decide)]
  symm
  refine List.eq_replicate_iff.2 ⟨?_, fun u hu => ?_⟩
  · rw [fl_len (fun x hx => by rw [(List.mem_replicate.1 hx).2]; exact List.length_replicate)]
    rw [List.length_replicate]
  · obtain ⟨x, hx, h⟩ := List.mem_flatMap.1 hu
    rw [(List.mem_replicate.1 hx).2] at h
    obtain ⟨y, hy, rfl⟩ := List.mem_map.1 h
    rw [(List.mem_replicate.1 hy).2]
theorem lvOf_nil {α : Type} (N : α → α → α) (e : α) (d : Nat) : lvOf N e d [] = List.replicate (d + 1) [] := by
  apply List.ext_getElem?
  intro j
  rcases Nat.lt_or_ge d j with h | h
  · rw [List.getElem?_eq_none (by rw [lvOf_len]; omega), List.getElem?_eq_none (by simp; omega)]
  · rw [lvOf_get h, List.getElem?_replicate, if_pos (by omega)]
    simp [levOf]
/-- Levels without leaves. -/
theorem lev_none (w : World) (m : Nat) (e : TypeId) : (levR (List.replicate m (.slice none 0 0)) (List.replicate m []) e).sat w :=
  ⟨by simp, fun k v l hv hl => by
    obtain ⟨_, rfl⟩ := List.getElem?_eq_some_iff.1 hv
    obtain ⟨_, rfl⟩ := List.getElem?_eq_some_iff.1 hl
    simp only [List.getElem_replicate]
    exact row_nil w e 32, fun i j v u _ hv hu b hb => by
    obtain ⟨_, rfl⟩ := List.getElem?_eq_some_iff.1 hv
    simp [Value.ownBlock] at hb⟩
theorem levn_fp (m : Nat) (e : TypeId) (lv : List Hs) : (levR (List.replicate m (.slice none 0 0)) lv e).fp = [] := by
  simp [levR, Value.ownBlock]
/-- A row that fills its block is the block. -/
theorem Mem.rblk (M : Mem w0 w F rs) {i b m sz : Nat} {e : TypeId} {xs : List Value} (hi : rs[i]? = some (Go.Sx.row (.slice (some ⟨b, 0, none⟩) m m) e sz m xs)) : Mem w0 w F (rs.set i (blk b xs e)) := by
  refine M.turn hi (Keep.refl _ _) ?_ fun b hb => .inl hb
  rcases (M.get hi).2 with ⟨hv, _⟩ | ⟨g, cap, cur, hv, _, hg, _, _, hsz, hcur⟩
  · cases hv
  · simp only [Value.slice.injEq, Option.some.injEq, Addr.mk.injEq] at hv
    obtain ⟨⟨rfl, _, _⟩, _, rfl⟩ := hv
    have e1 : cur.toList = xs := by rw [← hcur, List.take_of_length_le (by simp [hsz])]
    show w.heap[b]? = some (.cells xs.toArray e (0, 0))
    rw [hg, ← e1]
end
end Go.Sx
