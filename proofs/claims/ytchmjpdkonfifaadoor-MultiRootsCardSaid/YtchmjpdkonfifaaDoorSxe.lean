/-
  A walk by small steps, part 5: a statement whose order is open is walked in one order that a closed check has found to stand for all.
-/
import Derived.Test.YtchmjpdkonfifaaDoorSxd
import Derived.OrdersHeld
set_option linter.unusedVariables false
set_option linter.unusedSimpArgs false
namespace Go.Sx
open Go.RowKit

section
variable {P : Program} {ops : Array Oper} {Q : Post} {fin : List Nat}

/-- Whatever order is picked; behind each operation S holds as it did; at an end ('fin') another S may be taken. -/
def anyF (P : Program) (ops : Array Oper) (Q : Post) (fin : List Nat) : Nat → (World → Prop) → Array Bool → Act → World → Prop
  | 0, _, listed, a, w => Region.ready .any ops listed = [] ∧ Q .normal a w
  | fuel + 1, S, listed, a, w =>
    (Region.ready .any ops listed = [] → Q .normal a w) ∧
    ∀ i ∈ Region.ready .any ops listed, wpOp P ops Q i (fun a' w' => (fin.contains i = true ∧ ∃ S', anyF P ops Q fin fuel S' (listed.setIfInBounds i true) a' w') ∨ (∃ S', (∀ u, S' u → S u) ∧ (S w → S' w') ∧ anyF P ops Q fin fuel S' (listed.setIfInBounds i true) a' w')) a w
theorem any_of_F : ∀ (fuel : Nat) (S : World → Prop) (listed : Array Bool) (a : Act) (w : World), anyF P ops Q fin fuel S listed a w → wpAny P .any ops Q fuel listed a w
  | 0, _, _, _, _, h => h
  | fuel + 1, _, _, _, _, h => ⟨h.1, fun i hi => wpOp_mono (fun a' w' h' => by
      rcases h' with ⟨_, S', h'⟩ | ⟨_, _, _, h'⟩
      · exact any_of_F fuel S' _ a' w' h'
      · exact any_of_F fuel _ _ a' w' h') (h.2 i hi)⟩

theorem ready_waits {i j : Nat} {oj : Oper} {listed : Array Bool} (hr : i ∈ Region.ready .any ops listed) (hj : j ∈ Region.ready .any ops listed) (hoj : ops[j]? = some oj) : ∀ e ∈ oj.after, Region.binds .any e = true → e.on ≠ i := by
  obtain ⟨_, oj', hoj', hall⟩ := mem_ready.1 hj
  obtain rfl := Option.some.inj (hoj.symm.trans hoj')
  intro e he hb heq
  have h1 := hall e he hb
  have h0 := (mem_ready.1 hr).1
  rw [heq] at h1
  rcases Nat.lt_or_ge i listed.size with h' | h'
  · simp [h'] at h0 h1; rw [h0] at h1; cases h1
  · simp [Array.getElem?_eq_none h'] at h1

/-- The end operations that are still to come wait for i. -/
def finOk (ops : Array Oper) (fin : List Nat) (listed : Array Bool) (i : Nat) : Bool := fin.all fun j => listed.getD j true || match ops[j]? with
  | some oj => oj.after.any fun e => Region.binds .any e && e.on == i
  | none => true
theorem finOk_spec {i j : Nat} {oj : Oper} {listed : Array Bool} (h : finOk ops fin listed i = true) (hj : fin.contains j = true) (hun : listed.getD j true = false) (hoj : ops[j]? = some oj) : ∃ e ∈ oj.after, Region.binds .any e = true ∧ e.on = i := by
  have h1 := List.all_eq_true.1 h j (by simpa using hj)
  rw [hoj, hun] at h1
  simp only [Bool.false_or] at h1
  obtain ⟨e, he, hb⟩ := Array.any_eq_true'.1 h1
  simp only [Bool.and_eq_true, beq_iff_eq] at hb
  exact ⟨e, he, hb.1, hb.2⟩
theorem finOk_mono {i j : Nat} {listed : Array Bool} (h : finOk ops fin listed i = true) : finOk ops fin (listed.setIfInBounds j true) i = true := by
  refine List.all_eq_true.2 fun k hk => ?_
  have h1 := List.all_eq_true.1 h k hk
  simp only [Bool.or_eq_true] at h1 ⊢
  rcases h1 with h1 | h1
  · left
    by_cases e : j = k
    · subst e
      rcases Nat.lt_or_ge j listed.size with hl | hl
      · simp [hl]
      · simp [hl]
    · rw [getD_set_ne true e]; exact h1
  · exact .inr h1

/-- T: in which worlds the operation yields v: S ('held') or all. -/
theorem anyF_first {held : Bool} {i : Nat} {oi : Oper} {v : Value} (hi : ops[i]? = some oi) (hsel : ∀ (j : Nat) (o : Oper) cs b, ops[j]? = some o → o.op ≠ .select cs b)
    (hQ : ∀ c a w, Q (.panic c) (a.put oi.dst v) w → Q (.panic c) a w) :
    ∀ (fuel : Nat) (S : World → Prop) (listed : Array Bool) (a : Act) (w : World), (held = true → finOk ops fin listed i = true) →
      (∀ j oj, ops[j]? = some oj → j ≠ i → listed.getD j true = false → (∀ e ∈ oj.after, Region.binds .any e = true → e.on ≠ i) → oi.apart ops oj = true) →
      i ∈ Region.ready .any ops listed → YieldsIf P ops (fun w => held = true → S w) oi v a → (held = true → S w) →
      anyF P ops Q fin fuel S (listed.setIfInBounds i true) (a.put oi.dst v) w → anyF P ops Q fin (fuel + 1) S listed a w := by
  intro fuel
  induction fuel with
  | zero =>
    intro S listed a w _ _ hr hy hS H
    refine ⟨fun h => (by rw [h] at hr; cases hr), fun j hj => ?_⟩
    by_cases hji : j = i
    · subst hji; exact hy.wpOp hi hS (.inr ⟨S, fun _ h => h, id, H⟩)
    · have := ready_mono hj hji
      rw [H.1] at this
      cases this
  | succ fuel ih =>
    intro S listed a w hfin hfree hr hy hS H
    refine ⟨fun h => (by rw [h] at hr; cases hr), fun j hj => ?_⟩
    by_cases hji : j = i
    · subst hji; exact hy.wpOp hi hS (.inr ⟨S, fun _ h => h, id, H⟩)
    · have h1 := H.2 j (ready_mono hj hji)
      obtain ⟨hjun, oj, hoj, hall⟩ := mem_ready.1 hj
      have hnot := ready_waits hr hj hoj
      have h2 := wpOp_putIf hoj (hfree j oj hoj hji hjun hnot) (fun cs b => hsel i oi cs b hi) (fun cs b => hsel j oj cs b hoj) hQ hy h1
      have hfree' : ∀ k ok, ops[k]? = some ok → k ≠ i → (listed.setIfInBounds j true).getD k true = false →
          (∀ e ∈ ok.after, Region.binds .any e = true → e.on ≠ i) → oi.apart ops ok = true := fun k ok hk hki hun hno => by
        refine hfree k ok hk hki ?_ hno
        by_cases hjk : j = k
        · subst hjk; exact hjun
        · rw [getD_set_ne true hjk] at hun; exact hun
      refine wpOp_mono (fun a' w' h3 => ?_) h2
      obtain ⟨h3y, h3⟩ := h3
      rcases h3 with ⟨hf, S', h3⟩ | ⟨S', hm, hd, h3⟩
      · cases hh : held with
        | true =>
          obtain ⟨e, he, hb, hon⟩ := finOk_spec (hfin hh) hf hjun hoj
          exact absurd hon (hnot e he hb)
        | false =>
          refine .inl ⟨hf, S', ih S' (listed.setIfInBounds j true) a' w' (fun e => by rw [hh] at e; cases e) hfree' (ready_mono hr (Ne.symm hji)) ?_ (fun e => by rw [hh] at e; cases e) ?_⟩
          · subst hh; exact h3y.imp (fun ⟨h1, h2⟩ => ⟨h1, fun w _ => h2 w (fun e => by cases e)⟩) id
          · rw [Array.setIfInBounds_comm _ _ hji]; exact h3
      · cases hh : held with
        | true =>
          refine .inr ⟨S', hm, hd, ih S' (listed.setIfInBounds j true) a' w' (fun hh => finOk_mono (hfin hh)) hfree' (ready_mono hr (Ne.symm hji)) ?_ (fun hh => hd (hS hh)) ?_⟩
          · exact h3y.imp (fun ⟨h1, h2⟩ => ⟨h1, fun u hu => h2 u fun e => hm u (hu e)⟩) id
          · rw [Array.setIfInBounds_comm _ _ hji]
            exact h3
        | false =>
          refine .inr ⟨S', hm, hd, ih S' (listed.setIfInBounds j true) a' w' (fun e => by rw [hh] at e; cases e) hfree' (ready_mono hr (Ne.symm hji)) ?_ (fun e => by rw [hh] at e; cases e) ?_⟩
          · exact h3y.imp (fun ⟨h1, h2⟩ => ⟨h1, fun u _ => h2 u fun e => by rw [hh] at e; cases e⟩) id
          · rw [Array.setIfInBounds_comm _ _ hji]
            exact h3

/-! ### A plan: kinds 0 (yields in all worlds), 1 (yields where S holds), 2 (acts); 'two': either of two that act may come first -/
inductive PT where
  | nil
  | one (i k : Nat) (r : PT)
  | two (i : Nat) (r : PT) (j : Nat) (s : PT)
def PT.len : PT → Nat → Bool
  | .nil, m => m == 0
  | .one _ _ r, m => match m with
    | 0 => false
    | m + 1 => r.len m
  | .two _ r _ s, m => match m with
    | 0 => false
    | m + 1 => r.len m && s.len m
def planOk (ops : Array Oper) (fin : List Nat) : PT → Array Bool → Bool
  | .nil, listed => (Region.ready .any ops listed).isEmpty
  | .one i 0 r, listed => (Region.ready .any ops listed).contains i && Region.free .any ops listed i && planOk ops fin r (listed.setIfInBounds i true)
  | .one i 1 r, listed => (Region.ready .any ops listed).contains i && Region.free .any ops listed i && finOk ops fin listed i && planOk ops fin r (listed.setIfInBounds i true)
  | .one i (_ + 2) r, listed => Region.ready .any ops listed == [i] && planOk ops fin r (listed.setIfInBounds i true)
  | .two i r j s, listed => (Region.ready .any ops listed).all (fun k => k == i || k == j) && !(Region.ready .any ops listed).isEmpty && planOk ops fin r (listed.setIfInBounds i true) && planOk ops fin s (listed.setIfInBounds j true)
def wpPlan (P : Program) (ops : Array Oper) (Q : Post) (fin : List Nat) : PT → (World → Prop) → Act → World → Prop
  | .nil, _, a, w => Q .normal a w
  | .one i 0 r, S, a, w => ∃ o v, ops[i]? = some o ∧ YieldsIf P ops (fun _ => True) o v a ∧ wpPlan P ops Q fin r S (a.put o.dst v) w
  | .one i 1 r, S, a, w => S w ∧ ∃ o v, ops[i]? = some o ∧ YieldsIf P ops S o v a ∧ wpPlan P ops Q fin r S (a.put o.dst v) w
  | .one i (_ + 2) r, S, a, w => wpOp P ops Q i (fun a' w' => (fin.contains i = true ∧ ∃ S', wpPlan P ops Q fin r S' a' w') ∨ (∃ S', (∀ u, S' u → S u) ∧ (S w → S' w') ∧ wpPlan P ops Q fin r S' a' w')) a w
  | .two i r j s, S, a, w => wpOp P ops Q i (fun a' w' => (fin.contains i = true ∧ ∃ S', wpPlan P ops Q fin r S' a' w') ∨ (∃ S', (∀ u, S' u → S u) ∧ (S w → S' w') ∧ wpPlan P ops Q fin r S' a' w')) a w ∧
      wpOp P ops Q j (fun a' w' => (fin.contains j = true ∧ ∃ S', wpPlan P ops Q fin s S' a' w') ∨ (∃ S', (∀ u, S' u → S u) ∧ (S w → S' w') ∧ wpPlan P ops Q fin s S' a' w')) a w
theorem plan_sound (hsel : Region.noSelect ops = true) (hQ : ∀ c a d v w, Q (.panic c) (Act.put a d v) w → Q (.panic c) a w) : ∀ (p : PT) (m : Nat) (S : World → Prop) (listed : Array Bool) (a : Act) (w : World),
    p.len m = true → planOk ops fin p listed = true → wpPlan P ops Q fin p S a w → anyF P ops Q fin m S listed a w
  | .nil, m, S, listed, a, w, hl, hk, h => by
    have : m = 0 := by simpa [PT.len] using hl
    subst this
    exact ⟨by simpa [planOk] using hk, h⟩
  | .one i 0 r, 0, S, listed, a, w, hl, hk, h => by cases hl
  | .one i 0 r, m + 1, S, listed, a, w, hl, hk, h => by
    simp only [planOk, Bool.and_eq_true] at hk
    obtain ⟨⟨h1, h2⟩, h3⟩ := hk
    obtain ⟨o, v, hi, hy, hr⟩ := h
    exact anyF_first (held := false) hi (Region.noSelect_spec hsel) (fun c a w h => hQ c a _ _ w h) _ S listed a w (fun e => by cases e) (Region.free_spec hi h2) (by simpa using h1) (hy.imp (fun ⟨h1, h2⟩ => ⟨h1, fun w _ => h2 w trivial⟩) id) (fun e => by cases e) (plan_sound hsel hQ r m S _ _ _ hl h3 hr)
  | .one i 1 r, 0, S, listed, a, w, hl, hk, h => by cases hl
  | .one i 1 r, m + 1, S, listed, a, w, hl, hk, h => by
    simp only [planOk, Bool.and_eq_true] at hk
    obtain ⟨⟨⟨h1, h2⟩, h4⟩, h3⟩ := hk
    obtain ⟨hS, o, v, hi, hy, hr⟩ := h
    exact anyF_first (held := true) hi (Region.noSelect_spec hsel) (fun c a w h => hQ c a _ _ w h) _ S listed a w (fun _ => h4) (Region.free_spec hi h2) (by simpa using h1) (hy.imp (fun ⟨h1, h2⟩ => ⟨h1, fun w h => h2 w (h rfl)⟩) id) (fun _ => hS) (plan_sound hsel hQ r m S _ _ _ hl h3 hr)
  | .one i (k + 2) r, 0, S, listed, a, w, hl, hk, h => by cases hl
  | .one i (k + 2) r, m + 1, S, listed, a, w, hl, hk, h => by
    simp only [planOk, Bool.and_eq_true, beq_iff_eq] at hk
    obtain ⟨h1, h3⟩ := hk
    refine ⟨fun h0 => (by rw [h1] at h0; cases h0), fun j hj => ?_⟩
    rw [h1] at hj
    obtain rfl : j = i := by simpa using hj
    refine wpOp_mono (fun a' w' hd => ?_) h
    rcases hd with ⟨hf, S', hp⟩ | ⟨S', hm, hd, hp⟩
    · exact .inl ⟨hf, S', plan_sound hsel hQ r m S' _ _ _ hl h3 hp⟩
    · exact .inr ⟨S', hm, hd, plan_sound hsel hQ r m S' _ _ _ hl h3 hp⟩
  | .two i r j s, 0, S, listed, a, w, hl, hk, h => by cases hl
  | .two i r j s, m + 1, S, listed, a, w, hl, hk, h => by
    simp only [planOk, Bool.and_eq_true] at hk
    obtain ⟨⟨⟨h1, h2⟩, h3⟩, h4⟩ := hk
    simp only [PT.len, Bool.and_eq_true] at hl
    obtain ⟨ha, hb⟩ := h
    refine ⟨fun h0 => (by rw [h0] at h2; cases h2), fun k hkr => ?_⟩
    have h5 := List.all_eq_true.1 h1 k hkr
    simp only [Bool.or_eq_true, beq_iff_eq] at h5
    rcases h5 with rfl | rfl
    · refine wpOp_mono (fun a' w' hd => ?_) ha
      rcases hd with ⟨hf, S', hp⟩ | ⟨S', hm, hd, hp⟩
      · exact .inl ⟨hf, S', plan_sound hsel hQ r m S' _ _ _ hl.1 h3 hp⟩
      · exact .inr ⟨S', hm, hd, plan_sound hsel hQ r m S' _ _ _ hl.1 h3 hp⟩
    · refine wpOp_mono (fun a' w' hd => ?_) hb
      rcases hd with ⟨hf, S', hp⟩ | ⟨S', hm, hd, hp⟩
      · exact .inl ⟨hf, S', plan_sound hsel hQ s m S' _ _ _ hl.2 h4 hp⟩
      · exact .inr ⟨S', hm, hd, plan_sound hsel hQ s m S' _ _ _ hl.2 h4 hp⟩
end

/-! ### The walk of a plan -/
section
variable {P : Program} {n : Nat} {l : List Oper} {Q : Post} {S : World → Prop} {fin : List Nat} {env : Env} {w : World} {r : PT} {i d : Nat} {o : Oper}
def WP (P : Program) (n : Nat) (l : List Oper) (Q : Post) (S : World → Prop) (fin : List Nat) (r : PT) (env : Env) (w : World) : Prop := ∀ a, Fit n env a → wpPlan P l.toArray Q fin r S a w
/-- What is asked at a panic doesn't hang on the temporaries. -/
def HQ (Q : Post) : Prop := ∀ c a d v w, Q (.panic c) (Act.put a d v) w → Q (.panic c) a w
theorem HQ.body {fn : Func} {R : Ending → World → Prop} : HQ (bodyPost P fn R) := fun c a d v w h => by cases d <;> exact h
theorem HQ.then_ {K : Act → World → Prop} (h : HQ Q) : HQ (Exit.then K Q) := fun c a d v w => h c a d v w
theorem HQ.block {id : Nat} (h : HQ Q) : HQ (Exit.inBlock id Q) := fun c a d v w => h c a d v w
theorem HQ.scope (h : HQ Q) : HQ (Exit.noGoto Q) := fun c a d v w => h c a d v w
theorem WC.draw {id : Nat} (S : World → Prop) (fin : List Nat) (r : PT) (hm : P.follows .mixedOrders = true) (hsel : Region.noSelect l.toArray = true) (hlen : r.len l.length = true) (hk : planOk l.toArray fin r (Array.replicate l.length false) = true)
    (hQ : HQ Q) (h : WP P n l Q S fin r env w.drew) : WC P n (.region id l.toArray true) Q env w := fun a ha => by
  refine wp_region_any hm (any_of_F (fin := fin) _ S _ _ _ ?_)
  have := plan_sound (P := P) hsel hQ r l.length S (Array.replicate l.length false) a w.drew hlen hk (h a ha)
  simpa using this
theorem WP.nil (h : WX n Q .normal env w) : WP P n l Q S fin .nil env w := fun a ha => h a ha
/-- Either of two may come first. -/
theorem WP.two {j : Nat} {s : PT} (h1 : WP P n l Q S fin (.one i 2 r) env w) (h2 : WP P n l Q S fin (.one j 2 s) env w) : WP P n l Q S fin (.two i r j s) env w := fun a ha => ⟨h1 a ha, h2 a ha⟩
/-- An operation that yields in all worlds. -/
theorem WP.p {v : Value} (hi : l[i]? = some o) (hg : o.guard = none) (hd : o.dst = some d) (hn : Nat.ble (d + 1) n = true) (h : ∀ w, Ex P n env o v w) (k : WP P n l Q S fin r ((d, v) :: env) w) : WP P n l Q S fin (.one i 0 r) env w := fun a ha =>
  ⟨o, v, by simpa using hi, .inl ⟨by simp [Region.wanted, hg], fun w _ => h w a ha⟩, by rw [hd]; exact k _ (ha.put hn v)⟩
/-- One that yields where S holds. -/
theorem WP.q {v : Value} (hS : S w) (hi : l[i]? = some o) (hg : o.guard = none) (hd : o.dst = some d) (hn : Nat.ble (d + 1) n = true) (h : ∀ w, S w → Ex P n env o v w) (k : WP P n l Q S fin r ((d, v) :: env) w) : WP P n l Q S fin (.one i 1 r) env w := fun a ha =>
  ⟨hS, o, v, by simpa using hi, .inl ⟨by simp [Region.wanted, hg], fun w hw => h w hw a ha⟩, by rw [hd]; exact k _ (ha.put hn v)⟩
/-- The same under a guard that says yes. -/
theorem WP.py {v : Value} {j dj : Nat} {b : Bool} (hi : l[i]? = some o) (hg : o.guard = some (j, b)) (hj : (l[j]?).bind (·.dst) = some dj) (hv : look env dj = some (.bool b)) (hd : o.dst = some d) (hn : Nat.ble (d + 1) n = true) (h : ∀ w, Ex P n env o v w) (k : WP P n l Q S fin r ((d, v) :: env) w) :
    WP P n l Q S fin (.one i 0 r) env w := fun a ha =>
  ⟨o, v, by simpa using hi, .inl ⟨by simp [Region.wanted, hg, yielded_of ha (ops := l.toArray) (by simpa using hj) hv], fun w _ => h w a ha⟩, by rw [hd]; exact k _ (ha.put hn v)⟩
theorem WP.qy {v : Value} {j dj : Nat} {b : Bool} (hS : S w) (hi : l[i]? = some o) (hg : o.guard = some (j, b)) (hj : (l[j]?).bind (·.dst) = some dj) (hv : look env dj = some (.bool b)) (hd : o.dst = some d) (hn : Nat.ble (d + 1) n = true) (h : ∀ w, S w → Ex P n env o v w) (k : WP P n l Q S fin r ((d, v) :: env) w) :
    WP P n l Q S fin (.one i 1 r) env w := fun a ha =>
  ⟨hS, o, v, by simpa using hi, .inl ⟨by simp [Region.wanted, hg, yielded_of ha (ops := l.toArray) (by simpa using hj) hv], fun w hw => h w hw a ha⟩, by rw [hd]; exact k _ (ha.put hn v)⟩
theorem WP.no {j dj : Nat} {b : Bool} {u : Value} (hi : l[i]? = some o) (hg : o.guard = some (j, b)) (hj : (l[j]?).bind (·.dst) = some dj) (hv : look env dj = some u) (hu : isB u b = false) (hd : o.dst = some d) (hn : Nat.ble (d + 1) n = true) (k : WP P n l Q S fin r ((d, undef) :: env) w) :
    WP P n l Q S fin (.one i 0 r) env w := fun a ha =>
  ⟨o, undef, by simpa using hi, .inr ⟨by simp only [Region.wanted, hg]; exact unwanted ha (ops := l.toArray) (by simpa using hj) hv hu, rfl⟩, by rw [hd]; exact k _ (ha.put hn undef)⟩
theorem WP.no1 {j dj : Nat} {b : Bool} {u : Value} (hS : S w) (hi : l[i]? = some o) (hg : o.guard = some (j, b)) (hj : (l[j]?).bind (·.dst) = some dj) (hv : look env dj = some u) (hu : isB u b = false) (hd : o.dst = some d) (hn : Nat.ble (d + 1) n = true) (k : WP P n l Q S fin r ((d, undef) :: env) w) :
    WP P n l Q S fin (.one i 1 r) env w := fun a ha =>
  ⟨hS, o, undef, by simpa using hi, .inr ⟨by simp only [Region.wanted, hg]; exact unwanted ha (ops := l.toArray) (by simpa using hj) hv hu, rfl⟩, by rw [hd]; exact k _ (ha.put hn undef)⟩
theorem WP.no2 {j dj : Nat} {b : Bool} {u : Value} (hi : l[i]? = some o) (hg : o.guard = some (j, b)) (hj : (l[j]?).bind (·.dst) = some dj) (hv : look env dj = some u) (hu : isB u b = false) (hd : o.dst = some d) (hn : Nat.ble (d + 1) n = true) (k : WP P n l Q S fin r ((d, undef) :: env) w) :
    WP P n l Q S fin (.one i 2 r) env w := fun a ha => by
  have hi' : l.toArray[i]? = some o := by simpa using hi
  show wpOp P l.toArray Q i _ a w
  unfold wpOp
  simp only [hi', Region.wanted, hg]
  rw [if_neg (by rw [unwanted ha (ops := l.toArray) (by simpa using hj) hv hu]; decide)]
  exact .inr ⟨S, fun _ h => h, id, by rw [hd]; exact k _ (ha.put hn undef)⟩
/-- One that acts. -/
theorem WP.a {R : Value → World → Prop} (hi : l[i]? = some o) (hg : o.guard = none) (hd : o.dst = some d) (hn : Nat.ble (d + 1) n = true) (h : Ac P n env o w R)
    (k : ∀ v w', R v w' → (fin.contains i = true ∧ ∃ S', WP P n l Q S' fin r ((d, v) :: env) w') ∨ ((S w → S w') ∧ WP P n l Q S fin r ((d, v) :: env) w')) : WP P n l Q S fin (.one i 2 r) env w := fun a ha => by
  have hi' : l.toArray[i]? = some o := by simpa using hi
  show wpOp P l.toArray Q i _ a w
  unfold wpOp
  simp only [hi', Region.wanted, hg, if_true]
  refine .inl (h a ha _ Q fun v w' hr => ?_)
  rw [hd]
  rcases k v w' hr with ⟨hf, S', hk⟩ | ⟨hs, hk⟩
  · exact .inl ⟨hf, S', hk _ (ha.put hn v)⟩
  · exact .inr ⟨S, fun _ h => h, hs, hk _ (ha.put hn v)⟩
theorem WP.ay {R : Value → World → Prop} {j dj : Nat} {b : Bool} (hi : l[i]? = some o) (hg : o.guard = some (j, b)) (hj : (l[j]?).bind (·.dst) = some dj) (hv : look env dj = some (.bool b)) (hd : o.dst = some d) (hn : Nat.ble (d + 1) n = true) (h : Ac P n env o w R)
    (k : ∀ v w', R v w' → (fin.contains i = true ∧ ∃ S', WP P n l Q S' fin r ((d, v) :: env) w') ∨ ((S w → S w') ∧ WP P n l Q S fin r ((d, v) :: env) w')) : WP P n l Q S fin (.one i 2 r) env w := fun a ha => by
  have hi' : l.toArray[i]? = some o := by simpa using hi
  show wpOp P l.toArray Q i _ a w
  unfold wpOp
  simp only [hi', Region.wanted, hg, yielded_of ha (ops := l.toArray) (by simpa using hj) hv]
  rw [if_pos (by simp)]
  refine .inl (h a ha _ Q fun v w' hr => ?_)
  rw [hd]
  rcases k v w' hr with ⟨hf, S', hk⟩ | ⟨hs, hk⟩
  · exact .inl ⟨hf, S', hk _ (ha.put hn v)⟩
  · exact .inr ⟨S, fun _ h => h, hs, hk _ (ha.put hn v)⟩
theorem WP.a0 {R : Value → World → Prop} (hi : l[i]? = some o) (hg : o.guard = none) (hd : o.dst = none) (h : Ac P n env o w R)
    (k : ∀ v w', R v w' → (fin.contains i = true ∧ ∃ S', WP P n l Q S' fin r env w') ∨ ((S w → S w') ∧ WP P n l Q S fin r env w')) : WP P n l Q S fin (.one i 2 r) env w := fun a ha => by
  have hi' : l.toArray[i]? = some o := by simpa using hi
  show wpOp P l.toArray Q i _ a w
  unfold wpOp
  simp only [hi', Region.wanted, hg, if_true]
  refine .inl (h a ha _ Q fun v w' hr => ?_)
  rw [hd]
  rcases k v w' hr with ⟨hf, S', hk⟩ | ⟨hs, hk⟩
  · exact .inl ⟨hf, S', hk _ ha⟩
  · exact .inr ⟨S, fun _ h => h, hs, hk _ ha⟩
/-- One that acts; from here on more is held. -/
theorem WP.as {R : Value → World → Prop} (hi : l[i]? = some o) (hg : o.guard = none) (hd : o.dst = some d) (hn : Nat.ble (d + 1) n = true) (h : Ac P n env o w R)
    (k : ∀ v w', R v w' → ∃ S', (∀ u, S' u → S u) ∧ S' w' ∧ WP P n l Q S' fin r ((d, v) :: env) w') : WP P n l Q S fin (.one i 2 r) env w := fun a ha => by
  have hi' : l.toArray[i]? = some o := by simpa using hi
  show wpOp P l.toArray Q i _ a w
  unfold wpOp
  simp only [hi', Region.wanted, hg, if_true]
  refine .inl (h a ha _ Q fun v w' hr => ?_)
  rw [hd]
  obtain ⟨S', hm, hs, hk⟩ := k v w' hr
  exact .inr ⟨S', hm, fun _ => hs, hk _ (ha.put hn v)⟩
theorem WP.ays {R : Value → World → Prop} {j dj : Nat} {b : Bool} (hi : l[i]? = some o) (hg : o.guard = some (j, b)) (hj : (l[j]?).bind (·.dst) = some dj) (hv : look env dj = some (.bool b)) (hd : o.dst = some d) (hn : Nat.ble (d + 1) n = true) (h : Ac P n env o w R)
    (k : ∀ v w', R v w' → ∃ S', (∀ u, S' u → S u) ∧ S' w' ∧ WP P n l Q S' fin r ((d, v) :: env) w') : WP P n l Q S fin (.one i 2 r) env w := fun a ha => by
  have hi' : l.toArray[i]? = some o := by simpa using hi
  show wpOp P l.toArray Q i _ a w
  unfold wpOp
  simp only [hi', Region.wanted, hg, yielded_of ha (ops := l.toArray) (by simpa using hj) hv]
  rw [if_pos (by simp)]
  refine .inl (h a ha _ Q fun v w' hr => ?_)
  rw [hd]
  obtain ⟨S', hm, hs, hk⟩ := k v w' hr
  exact .inr ⟨S', hm, fun _ => hs, hk _ (ha.put hn v)⟩
end
theorem Gives.mono {P : Program} {f : FuncId} {args : Array Value} {w : World} {R R' : Value → World → Prop} (h : Gives P f args w R) (hr : ∀ v w', R v w' → R' v w') : Gives P f args w R' :=
  Calls.mono h fun e w' ⟨v, he, r⟩ => ⟨v, he, hr v w' r⟩
theorem Gives.calls {P : Program} {f : FuncId} {args : Array Value} {w : World} {R : Value → World → Prop} (h : Gives P f args w R) : Calls P f args w fun e w' => ∃ v, e = .returned v ∧ R v w' := h

end Go.Sx
