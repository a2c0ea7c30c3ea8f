/-
  A walk by small steps: the frame of a call is known by an association list (which temporary holds which value), each operation is one lemma.
  Part 1: frames, values, operations that compute, control. Plain theorems; nothing of the program stands here.
-/
import Derived.WalkKit
import Derived.WalkLawsBesides
set_option linter.unusedVariables false
set_option linter.unusedSimpArgs false
namespace Go.Sx
open Go.RowKit

abbrev Env := List (Nat × Value)
abbrev Post := Exit → Act → World → Prop

def look : Env → Nat → Option Value
  | [], _ => none
  | (i, v) :: r, j => bif Nat.beq i j then some v else look r j

def ev (env : Env) : Operand → Option Value
  | .tmp t => look env t
  | .const v => some v
  | .global g => some (.pointer (some ⟨g, 0, none⟩))
  | .func f => some (.func (.func f) #[] #[])

def evs (env : Env) : List Operand → Option (List Value)
  | [] => some []
  | x :: r => match ev env x, evs env r with
    | some v, some vs => some (v :: vs)
    | _, _ => none

structure Fit (n : Nat) (env : Env) (a : Act) : Prop where
  defers : a.defers = []
  size : a.tmps.size = n
  has : ∀ i v, look env i = some v → a.tmps.getD i undef = v

def Sub (env env' : Env) : Prop := ∀ i v, look env' i = some v → look env i = some v
theorem Sub.nil {env : Env} : Sub env [] := fun i v h => by simp [look] at h
theorem Sub.cons {env env' : Env} {i : Nat} {v : Value} (h : look env i = some v) (t : Sub env env') : Sub env ((i, v) :: env') := by
  intro j u hj
  simp only [look] at hj
  by_cases e : Nat.beq i j = true
  · rw [e] at hj
    simp only [cond_true, Option.some.injEq] at hj
    have := Nat.eq_of_beq_eq_true e
    subst this; subst hj; exact h
  · simp only [Bool.not_eq_true] at e
    rw [e] at hj
    exact t j u (by simpa using hj)
theorem Sub.refl {env : Env} : Sub env env := fun _ _ h => h

theorem Fit.sub {n : Nat} {env env' : Env} {a : Act} (h : Fit n env a) (s : Sub env env') : Fit n env' a := ⟨h.defers, h.size, fun i v hi => h.has i v (s i v hi)⟩
theorem Fit.eval {n : Nat} {env : Env} {a : Act} {x : Operand} {v : Value} (h : Fit n env a) (hx : ev env x = some v) : a.eval x = v := by
  cases x with
  | tmp t => exact h.has t v hx
  | const u => simpa [ev, Act.eval] using hx
  | global g => simpa [ev, Act.eval] using hx
  | func f => simpa [ev, Act.eval] using hx
theorem Fit.evals {n : Nat} {env : Env} {a : Act} (h : Fit n env a) : ∀ {xs : List Operand} {vs : List Value}, evs env xs = some vs → xs.map a.eval = vs
  | [], vs, hx => by simp [evs] at hx; simp [hx]
  | x :: r, vs, hx => by
    simp only [evs] at hx
    cases h1 : ev env x with
    | none => simp [h1] at hx
    | some v =>
      cases h2 : evs env r with
      | none => simp [h1, h2] at hx
      | some us =>
        simp [h1, h2] at hx
        subst hx
        simp [h.eval h1, Fit.evals h h2]
theorem Fit.put {n : Nat} {env : Env} {a : Act} {d : Nat} (h : Fit n env a) (hd : Nat.ble (d + 1) n = true) (v : Value) : Fit n ((d, v) :: env) (a.put (some d) v) := by
  have hdn : d < n := Nat.le_of_ble_eq_true hd
  refine ⟨h.defers, by simp [Act.put, h.size], fun i u hi => ?_⟩
  simp only [look] at hi
  by_cases e : Nat.beq d i = true
  · rw [e] at hi
    simp only [cond_true, Option.some.injEq] at hi
    have := Nat.eq_of_beq_eq_true e
    subst this; subst hi
    simp [Act.put, h.size, hdn]
  · simp only [Bool.not_eq_true] at e
    rw [e] at hi
    have hne : d ≠ i := fun he => by subst he; simp [Nat.beq_refl] at e
    have := h.has i u (by simpa using hi)
    rw [← this]
    simp [Act.put, Array.getD_eq_getD_getElem?, Array.getElem?_setIfInBounds, hne]

/-! ### The words of a walk -/
section
variable (P : Program) (n : Nat)
/-- The walk from the operations 'rest' on. -/
def WL (ops : Array Oper) (Q : Post) (rest : List Oper) (env : Env) (w : World) : Prop := ∀ a, Fit n env a → wpList P ops Q rest a w
/-- The walk of a piece of code. -/
def WC (c : Code) (Q : Post) (env : Env) (w : World) : Prop := ∀ a, Fit n env a → c.wp P Q a w
/-- What is asked at an exit. -/
def WX (Q : Post) (e : Exit) (env : Env) (w : World) : Prop := ∀ a, Fit n env a → Q e a w
/-- The operation yields v and turns nothing. -/
def Ex (env : Env) (o : Oper) (v : Value) (w : World) : Prop := ∀ a, Fit n env a → (execOp a.eval o).run P w = .ok (.value v) w
/-- The operation comes to some v and w' with R. -/
def Ac (env : Env) (o : Oper) (w : World) (R : Value → World → Prop) : Prop :=
  ∀ a, Fit n env a → ∀ (K : Act → World → Prop) (Q : Post), (∀ v w', R v w' → K (a.put o.dst v) w') → o.wp P a w K Q
/-- A call that returns. -/
def Gives (f : FuncId) (args : Array Value) (w : World) (R : Value → World → Prop) : Prop := Calls P f args w fun e w' => ∃ v, e = .returned v ∧ R v w'
end

section
variable {P : Program} {n : Nat} {ops : Array Oper} {Q : Post} {rest : List Oper} {env : Env} {w : World} {o : Oper} {d : Nat}

theorem Ex.ac {v : Value} (h : Ex P n env o v w) : Ac P n env o w fun u w' => u = v ∧ w' = w := by
  intro a ha K Q hK
  unfold Oper.wp
  rw [h a ha, Oper.upon_value]
  exact hK _ _ ⟨rfl, rfl⟩
theorem Ac.mono {R R' : Value → World → Prop} (h : Ac P n env o w R) (hr : ∀ v w', R v w' → R' v w') : Ac P n env o w R' :=
  fun a ha K Q hK => h a ha K Q fun v w' r => hK v w' (hr v w' r)

theorem WL.nil (h : WX n Q .normal env w) : WL P n ops Q [] env w := fun a ha => wpList_nil (h a ha)
theorem WL.ac {R : Value → World → Prop} (hg : o.guard = none) (hd : o.dst = some d) (hn : Nat.ble (d + 1) n = true) (h : Ac P n env o w R)
    (k : ∀ v w', R v w' → WL P n ops Q rest ((d, v) :: env) w') : WL P n ops Q (o :: rest) env w := by
  intro a ha
  refine wpList_plain hg fun K hK => h a ha K Q fun v w' r => hK _ _ ?_
  rw [hd]
  exact k v w' r _ (ha.put hn v)
theorem WL.ex {v : Value} (hg : o.guard = none) (hd : o.dst = some d) (hn : Nat.ble (d + 1) n = true) (h : Ex P n env o v w)
    (k : WL P n ops Q rest ((d, v) :: env) w) : WL P n ops Q (o :: rest) env w :=
  WL.ac hg hd hn h.ac fun u w' ⟨h1, h2⟩ => by subst h1; subst h2; exact k
theorem WL.ac0 {R : Value → World → Prop} (hg : o.guard = none) (hd : o.dst = none) (h : Ac P n env o w R)
    (k : ∀ v w', R v w' → WL P n ops Q rest env w') : WL P n ops Q (o :: rest) env w := by
  intro a ha
  refine wpList_plain hg fun K hK => h a ha K Q fun v w' r => hK _ _ ?_
  rw [hd]
  exact k v w' r _ ha

theorem yielded_of {j dj : Nat} {b : Bool} {a : Act} (ha : Fit n env a) (hj : (ops[j]?).bind (·.dst) = some dj) (hv : look env dj = some (.bool b)) : yielded ops a.tmps j = some b := by
  have h1 := ha.has dj _ hv
  have h2 : a.tmps[dj]? = some (.bool b) := by
    rcases Nat.lt_or_ge dj a.tmps.size with h | h
    · rw [Array.getElem?_eq_getElem h]
      simpa [Array.getD_eq_getD_getElem?, Array.getElem?_eq_getElem h] using h1
    · simp [Array.getD_eq_getD_getElem?, Array.getElem?_eq_none h, undef] at h1
  simp [yielded, hj, h2]
/-- An operation whose guard says yes. -/
theorem WL.yes {j dj : Nat} {b : Bool} {o' : Oper} (hg : o.guard = some (j, b)) (hj : (ops[j]?).bind (·.dst) = some dj) (hv : look env dj = some (.bool b)) (ho : o' = { o with guard := none })
    (k : WL P n ops Q (o' :: rest) env w) : WL P n ops Q (o :: rest) env w := by
  intro a ha
  have := k a ha
  subst ho
  unfold wpList at this ⊢
  have h1 : Region.wanted o (yielded ops a.tmps) = true := by simp [Region.wanted, hg, yielded_of ha hj hv]
  rw [if_pos (by simp [Region.wanted])] at this
  rw [if_pos h1]
  exact this
/-- Is it this very bool? -/
def isB : Value → Bool → Bool
  | .bool c, b => c == b
  | _, _ => false
theorem unwanted {j dj : Nat} {b : Bool} {u : Value} {a : Act} (ha : Fit n env a) (hj : (ops[j]?).bind (·.dst) = some dj) (hv : look env dj = some u) (hu : isB u b = false) : (yielded ops a.tmps j == some b) = false := by
  have h1 := ha.has dj _ hv
  simp only [yielded, hj, Option.bind_some]
  rcases Nat.lt_or_ge dj a.tmps.size with h | h
  · have h2 : a.tmps[dj] = u := by simpa [Array.getD_eq_getD_getElem?, Array.getElem?_eq_getElem h] using h1
    rw [Array.getElem?_eq_getElem h, h2]
    cases u <;> first | rfl | (simp only [isB] at hu; simpa using hu)
  · rw [Array.getElem?_eq_none h]; rfl
/-- An operation whose guard says no. -/
theorem WL.no {j dj : Nat} {b : Bool} {u : Value} (hg : o.guard = some (j, b)) (hj : (ops[j]?).bind (·.dst) = some dj) (hv : look env dj = some u) (hu : isB u b = false) (hd : o.dst = some d) (hn : Nat.ble (d + 1) n = true)
    (k : WL P n ops Q rest ((d, undef) :: env) w) : WL P n ops Q (o :: rest) env w := by
  intro a ha
  have h1 : Region.wanted o (yielded ops a.tmps) = false := by simp only [Region.wanted, hg]; exact unwanted ha hj hv hu
  refine wpList_skip h1 ?_
  rw [hd]
  exact k _ (ha.put hn undef)
theorem WL.no0 {j dj : Nat} {b : Bool} {u : Value} (hg : o.guard = some (j, b)) (hj : (ops[j]?).bind (·.dst) = some dj) (hv : look env dj = some u) (hu : isB u b = false) (hd : o.dst = none)
    (k : WL P n ops Q rest env w) : WL P n ops Q (o :: rest) env w := by
  intro a ha
  have h1 : Region.wanted o (yielded ops a.tmps) = false := by simp only [Region.wanted, hg]; exact unwanted ha hj hv hu
  refine wpList_skip h1 ?_
  rw [hd]
  exact k _ ha
theorem WL.sub {env' : Env} (s : Sub env env') (k : WL P n ops Q rest env' w) : WL P n ops Q rest env w := fun a ha => k a (ha.sub s)
theorem WC.sub {env' : Env} {c : Code} (s : Sub env env') (k : WC P n c Q env' w) : WC P n c Q env w := fun a ha => k a (ha.sub s)
theorem WX.sub {env' : Env} {e : Exit} (s : Sub env env') (k : WX n Q e env' w) : WX n Q e env w := fun a ha => k a (ha.sub s)

/-! ### Control -/
theorem WC.seq {x y : Code} (h : WC P n x (Exit.then (y.wp P Q) Q) env w) : WC P n (.seq x y) Q env w := fun a ha => wp_seq (h a ha)
theorem WC.region {id : Nat} {l : List Oper} (h : WL P n l.toArray Q l env w) : WC P n (.region id l.toArray false) Q env w := fun a ha => wp_region_lit (h a ha)
theorem WC.skip (h : WX n Q .normal env w) : WC P n .skip Q env w := fun a ha => wp_skip (h a ha)
theorem WC.label {l : Nat} (h : WX n Q .normal env w) : WC P n (.label l) Q env w := fun a ha => wp_label (h a ha)
theorem WC.ret (h : WX n Q .ret env w) : WC P n .ret Q env w := fun a ha => wp_ret (h a ha)
theorem WC.exit {id : Nat} (h : WX n Q (.exit id) env w) : WC P n (.exit id) Q env w := fun a ha => wp_exit (h a ha)
theorem WC.block {id : Nat} {c : Code} (h : WC P n c (Exit.inBlock id Q) env w) : WC P n (.block id c) Q env w := fun a ha => wp_block (h a ha)
theorem WC.scope {c : Code} (h : WC P n c (Exit.noGoto Q) env w) : WC P n (.scope c) Q env w := fun a ha => wp_scope_straight (h a ha)
theorem WC.cond {c : Operand} {x y : Code} {t : Bool} (hc : ev env c = some (.bool t)) (ht : t = true → WC P n x Q env w) (hf : t = false → WC P n y Q env w) : WC P n (.cond c x y) Q env w :=
  fun a ha => wp_cond_split (ha.eval hc) (fun h => ht h a ha) (fun h => hf h a ha)
theorem WC.cond_dec {c : Operand} {x y : Code} {p : Prop} [Decidable p] (hc : ev env c = some (.bool (decide p))) (ht : p → WC P n x Q env w) (hf : ¬ p → WC P n y Q env w) : WC P n (.cond c x y) Q env w :=
  WC.cond hc (fun h => ht (of_decide_eq_true h)) (fun h => hf (of_decide_eq_false h))
theorem WC.yes {c : Operand} {x y : Code} (hc : ev env c = some (.bool true)) (ht : WC P n x Q env w) : WC P n (.cond c x y) Q env w := fun a ha => wp_cond (ha.eval hc) (ht a ha)
theorem WC.no {c : Operand} {x y : Code} (hc : ev env c = some (.bool false)) (hf : WC P n y Q env w) : WC P n (.cond c x y) Q env w := fun a ha => wp_cond (ha.eval hc) (hf a ha)
theorem WC.loop {σ : Type} {c : Code} (E : σ → Env) (I : σ → World → Prop) (μ : σ → Nat) (s0 : σ) (h0 : I s0 w) (hs : Sub env (E s0))
    (round : ∀ s wr, I s wr → WC P n c (Exit.then (fun a w' => ∃ s', μ s' < μ s ∧ I s' w' ∧ Fit n (E s') a) Q) (E s) wr) : WC P n (.loop c) Q env w := by
  intro a ha
  refine wp_loop_any E I μ s0 h0 (ha.sub hs) round
where
  wp_loop_any {σ : Type} {P : Program} {n : Nat} {c : Code} {Q : Post} {a : Act} {w : World} (E : σ → Env) (I : σ → World → Prop) (μ : σ → Nat) (s0 : σ) (h0 : I s0 w) (hf : Fit n (E s0) a)
      (round : ∀ s wr, I s wr → WC P n c (Exit.then (fun a w' => ∃ s', μ s' < μ s ∧ I s' w' ∧ Fit n (E s') a) Q) (E s) wr) : (Code.loop c).wp P Q a w := by
    intro b k cs
    have key : ∀ m s a w, μ s = m → I s w → Fit n (E s) a →
        ∃ e a' w', Q e a' w' ∧ Arrives P (lone (b.at a (.code c :: .inLoop c :: k)) cs w) b k cs e a' w' := by
      intro m
      induction m using Nat.strongRecOn with
      | _ m ih =>
        intro s a w hm hI hF
        obtain ⟨e, a₁, w₁, hq, harr⟩ := round s w hI a hF b (.inLoop c :: k) cs
        cases e with
        | normal =>
          obtain ⟨s', hlt, hI', hF'⟩ := hq
          obtain ⟨e₂, a₂, w₂, hq₂, harr₂⟩ := ih (μ s') (hm ▸ hlt) s' a₁ w₁ rfl hI' hF'
          exact ⟨e₂, a₂, w₂, hq₂, .of_steps (Steps.trans harr (.one step_inLoop)) harr₂⟩
        | exit id => exact ⟨_, a₁, w₁, hq, .pass (x := .inLoop c) rfl (fun _ _ => .inl (by simp)) harr⟩
        | goto l => exact ⟨_, a₁, w₁, hq, .pass (x := .inLoop c) rfl (fun _ _ => .inl (by simp)) harr⟩
        | ret => exact ⟨_, a₁, w₁, hq, .pass (x := .inLoop c) rfl (fun _ _ => .inl (by simp)) harr⟩
        | panic ch => exact ⟨_, a₁, w₁, hq, .pass (x := .inLoop c) rfl (fun _ _ => .inl (by simp)) harr⟩
        | outgrown => exact ⟨_, a₁, w₁, hq, .pass (x := .inLoop c) rfl (fun _ _ => .inl (by simp)) harr⟩
    obtain ⟨e, a', w', hq, harr⟩ := key _ s0 a w rfl h0 hf
    exact ⟨e, a', w', hq, .of_steps (.one step_loop) harr⟩

/-! ### Exits -/
theorem WX.next {y : Code} (h : WC P n y Q env w) : WX n (Exit.then (y.wp P Q) Q) .normal env w := fun a ha => h a ha
theorem WX.ret_then {K : Act → World → Prop} (h : WX n Q .ret env w) : WX n (Exit.then K Q) .ret env w := fun a ha => h a ha
theorem WX.exit_then {K : Act → World → Prop} {id : Nat} (h : WX n Q (.exit id) env w) : WX n (Exit.then K Q) (.exit id) env w := fun a ha => h a ha
theorem WX.ret_block {id : Nat} (h : WX n Q .ret env w) : WX n (Exit.inBlock id Q) .ret env w := fun a ha => h a ha
theorem WX.normal_block {id : Nat} (h : WX n Q .normal env w) : WX n (Exit.inBlock id Q) .normal env w := fun a ha => h a ha
theorem WX.exit_block {id : Nat} (h : WX n Q .normal env w) : WX n (Exit.inBlock id Q) (.exit id) env w := fun a ha => by simp only [Exit.inBlock, if_true]; exact h a ha
theorem WX.exit_other {id id' : Nat} (hne : Nat.beq id' id = false) (h : WX n Q (.exit id') env w) : WX n (Exit.inBlock id Q) (.exit id') env w := fun a ha => by
  have : id' ≠ id := fun e => by subst e; simp [Nat.beq_refl] at hne
  simp only [Exit.inBlock, if_neg this]; exact h a ha
theorem WX.ret_scope (h : WX n Q .ret env w) : WX n (Exit.noGoto Q) .ret env w := fun a ha => h a ha
theorem WX.normal_scope (h : WX n Q .normal env w) : WX n (Exit.noGoto Q) .normal env w := fun a ha => h a ha
theorem WX.exit_scope {id : Nat} (h : WX n Q (.exit id) env w) : WX n (Exit.noGoto Q) (.exit id) env w := fun a ha => h a ha
theorem WX.again {σ : Type} {E : σ → Env} {I : σ → World → Prop} {μ : σ → Nat} {s : σ} (s' : σ) (hlt : μ s' < μ s) (hI : I s' w) (hs : Sub env (E s')) :
    WX n (Exit.then (fun a w' => ∃ s', μ s' < μ s ∧ I s' w' ∧ Fit n (E s') a) Q) .normal env w := fun a ha => ⟨s', hlt, hI, ha.sub hs⟩

theorem WC.cut {σ : Type} {x y : Code} (E : σ → Env) (J : σ → World → Prop) (hx : WC P n x (Exit.then (fun a w' => ∃ s, J s w' ∧ Fit n (E s) a) Q) env w) (hy : ∀ s w', J s w' → WC P n y Q (E s) w') : WC P n (.seq x y) Q env w := fun a ha =>
  wp_seq (Code.wp_mono (fun e a w q => by cases e <;> first | exact q | (obtain ⟨s, hj, hf⟩ := q; exact hy s w hj a hf)) (hx a ha))
theorem WX.join {σ : Type} {E : σ → Env} {J : σ → World → Prop} (s : σ) (hJ : J s w) (hs : Sub env (E s)) : WX n (Exit.then (fun a w' => ∃ s, J s w' ∧ Fit n (E s) a) Q) .normal env w := fun a ha => ⟨s, hJ, ha.sub hs⟩

/-! ### Entry and return -/
def argEnv : Nat → List Value → Env
  | _, [] => []
  | i, v :: r => (i, v) :: argEnv (i + 1) r
theorem look_argEnv (l : List Value) : ∀ (k i : Nat) (v : Value), look (argEnv k l) i = some v → k ≤ i ∧ l[i - k]? = some v := by
  induction l with
  | nil => intro k i v h; simp [argEnv, look] at h
  | cons u r ih =>
    intro k i v h
    simp only [argEnv, look] at h
    by_cases e : Nat.beq k i = true
    · rw [e] at h
      have := Nat.eq_of_beq_eq_true e
      subst this
      simpa using h
    · simp only [Bool.not_eq_true] at e
      rw [e] at h
      obtain ⟨h1, h2⟩ := ih (k + 1) i v (by simpa using h)
      refine ⟨by omega, ?_⟩
      have : i - k = (i - (k + 1)) + 1 := by omega
      rw [this]
      simpa using h2
theorem Gives.enter {f : FuncId} {fn : Func} {c : Code} {args : List Value} {R : Value → World → Prop} (hf : P.funcs[f]? = some fn) (hb : fn.body = some c) (hn : fn.ntmps = n)
    (hle : Nat.ble args.length n = true) (he : argEnv 0 args = env) (h : WC P n c (bodyPost P fn fun e w' => ∃ v, e = .returned v ∧ R v w') env w) : Gives P f args.toArray w R := by
  refine calls_of_wp hf hb (h _ ?_)
  have hle' := Nat.le_of_ble_eq_true hle
  refine ⟨rfl, by simp [hn]; omega, fun i v hi => ?_⟩
  rw [← he] at hi
  obtain ⟨_, h2⟩ := look_argEnv args 0 i v hi
  simp only [Nat.sub_zero] at h2
  have hlt : i < args.length := (List.getElem?_eq_some_iff.1 h2).1
  simp only [Array.getD_eq_getD_getElem?]
  rw [Array.getElem?_append_left (by simpa using hlt)]
  simp [h2]
theorem WX.ret1 {fn : Func} {R : Value → World → Prop} {t : Nat} {v : Value} (hr : fn.results = #[.tmp t]) (hv : look env t = some v) (h : R v w) :
    WX n (bodyPost P fn fun e w' => ∃ v, e = .returned v ∧ R v w') .ret env w := fun a ha => by
  refine bodyPost_ret (results_tmp hr _ _ _) ha.defers ⟨_, rfl, ?_⟩
  rw [ha.has t v hv]; exact h
theorem WX.ret2 {fn : Func} {R : Value → World → Prop} {t s : Nat} {v u : Value} (hr : fn.results = #[.tmp t, .tmp s]) (hv : look env t = some v) (hu : look env s = some u) (h : R (.tuple #[v, u]) w) :
    WX n (bodyPost P fn fun e w' => ∃ v, e = .returned v ∧ R v w') .ret env w := fun a ha => by
  refine bodyPost_ret (results_tmp2 hr _ _ _) ha.defers ⟨_, rfl, ?_⟩
  rw [ha.has t v hv, ha.has s u hu]; exact h
theorem WX.ret3 {fn : Func} {R : Value → World → Prop} {t s r : Nat} {v u x : Value} (hr : fn.results = #[.tmp t, .tmp s, .tmp r]) (hv : look env t = some v) (hu : look env s = some u) (hx : look env r = some x)
    (h : R (.tuple #[v, u, x]) w) :
    WX n (bodyPost P fn fun e w' => ∃ v, e = .returned v ∧ R v w') .ret env w := fun a ha => by
  refine bodyPost_ret (v := .tuple #[v, u, x]) ?_ ha.defers ⟨_, rfl, h⟩
  simp only [results, hr]
  have h1 := ha.has t v hv
  have h2 := ha.has s u hu
  have h3 := ha.has r x hx
  rw [Array.getD_eq_getD_getElem?] at h1 h2 h3
  simp [h1, h2, h3]
theorem WX.ret0 {fn : Func} {R : Value → World → Prop} (hr : fn.results = #[]) (h : R (.tuple #[]) w) :
    WX n (bodyPost P fn fun e w' => ∃ v, e = .returned v ∧ R v w') .ret env w := fun a ha =>
  bodyPost_ret (results_none hr _ _ _) ha.defers ⟨_, rfl, h⟩
theorem WX.end0 {fn : Func} {R : Value → World → Prop} (hr : fn.results = #[]) (h : R (.tuple #[]) w) :
    WX n (bodyPost P fn fun e w' => ∃ v, e = .returned v ∧ R v w') .normal env w := fun a ha =>
  bodyPost_end (results_none hr _ _ _) ha.defers ⟨_, rfl, h⟩
/-- A result that lies in a cell. -/
theorem WX.retc {fn : Func} {R : Value → World → Prop} {t : Nat} {ty : TypeId} {p : Addr} {v : Value} (hr : fn.results = #[.cell t ty]) (hv : look env t = some (.pointer (some p)))
    (hl : (loadVar ty p).run P w = .ok v w) (h : R v w) :
    WX n (bodyPost P fn fun e w' => ∃ v, e = .returned v ∧ R v w') .ret env w := fun a ha => by
  refine bodyPost_ret (v := v) ?_ ha.defers ⟨_, rfl, h⟩
  have h1 := ha.has t _ hv
  rw [Array.getD_eq_getD_getElem?] at h1
  simp [results, hr, h1, asAddr, hl]
theorem WX.retcc {fn : Func} {R : Value → World → Prop} {t s : Nat} {ty : TypeId} {p : Addr} {v u : Value} (hr : fn.results = #[.cell t ty, .tmp s]) (hv : look env t = some (.pointer (some p)))
    (hl : (loadVar ty p).run P w = .ok v w) (hu : look env s = some u) (h : R (.tuple #[v, u]) w) :
    WX n (bodyPost P fn fun e w' => ∃ v, e = .returned v ∧ R v w') .ret env w := fun a ha => by
  refine bodyPost_ret (v := .tuple #[v, u]) ?_ ha.defers ⟨_, rfl, h⟩
  have h1 := ha.has t _ hv
  have h2 := ha.has s _ hu
  rw [Array.getD_eq_getD_getElem?] at h1 h2
  simp [results, hr, h1, h2, asAddr, hl]
/-- Results, of any kind. -/
inductive RL (P : Program) (env : Env) (w : World) : List ResultVar → List Value → Prop
  | nil : RL P env w [] []
  | tmp {t : Nat} {v : Value} {rs : List ResultVar} {vs : List Value} : look env t = some v → RL P env w rs vs → RL P env w (.tmp t :: rs) (v :: vs)
  | cell {t : Nat} {ty : TypeId} {p : Addr} {v : Value} {rs : List ResultVar} {vs : List Value} : look env t = some (.pointer (some p)) → (loadVar ty p).run P w = .ok v w → RL P env w rs vs → RL P env w (.cell t ty :: rs) (v :: vs)
def resOf (tmps : Array Value) (r : ResultVar) : Sem Value := match r with
  | .tmp t => pure (tmps.getD t undef)
  | .cell b t => do loadVar t (← asAddr (tmps.getD b undef))
theorem RL.run {a : Act} (ha : Fit n env a) {rs : List ResultVar} {vs : List Value} (h : RL P env w rs vs) : (rs.mapM (resOf a.tmps)).run P w = .ok vs w := by
  induction h with
  | nil => simp
  | tmp h1 _ ih =>
    have := ha.has _ _ h1
    simp only [List.mapM_cons, Sem.run_bind, resOf, this, Sem.run_pure, Result.andThen_ok, ih]
  | cell h1 h2 _ ih =>
    have := ha.has _ _ h1
    simp only [List.mapM_cons, Sem.run_bind, resOf, this, asAddr, Sem.run_pure, Result.andThen_ok, h2, ih]
theorem WX.retn {fn : Func} {R : Value → World → Prop} {rs : List ResultVar} {vs : List Value} (hr : fn.results = rs.toArray) (hv : RL P env w rs vs) (h1 : Nat.beq vs.length 1 = false) (h : R (.tuple vs.toArray) w) :
    WX n (bodyPost P fn fun e w' => ∃ v, e = .returned v ∧ R v w') .ret env w := fun a ha => by
  refine bodyPost_ret (v := .tuple vs.toArray) ?_ ha.defers ⟨_, rfl, h⟩
  have h2 := hv.run ha
  have hne : ¬ vs.length = 1 := fun e => by rw [e] at h1; cases h1
  have h3 : results fn a.tmps = (do let vs ← fn.results.mapM (resOf a.tmps); pure (if h : vs.size = 1 then vs[0] else .tuple vs) : Sem Value) := by
    unfold results
    congr 1
  rw [h3, hr]
  simp only [Sem.run_bind]
  rw [Array.mapM_eq_mapM_toList]
  simp only [Sem.run_map, h2, Result.andThen_ok, Sem.run_pure]
  simp [hne]
end
end Go.Sx
