/- A walk by small steps, part 9: walks in a fence: the rounds of a range over a function, frames that keep a mark. My own text. -/
import Derived.Test.YtchmjpdkonfifaaDoorSxg
import Derived.RangeFuncLeaves
import Derived.RangeFuncRecord
import Derived.RangeFuncSeq
import Derived.OrdersIn
import Derived.TacticsIn
set_option linter.unusedVariables false
set_option linter.unusedSimpArgs false
namespace Go.Sx
open Go.RowKit

/-- All machines; a round's frames, or plain ones. -/
def fen (ro : Option Nat) : Fence := { Fence.wide with round := ro }
/-- The same activation, with these deferred calls behind its own. -/
def pls (a : Act) (ds : List Deferred) : Act := { a with defers := a.defers ++ ds }
def sh (ds : List Deferred) (Q : Post) : Post := fun e a w => Q e (pls a ds) w
def plainOp (o : Oper) : Bool := match o.op with
  | .defer _ => false
  | _ => true
theorem pls_put (a : Act) (d : Option Nat) (v : Value) (ds : List Deferred) : pls (Act.put a d v) ds = Act.put (pls a ds) d v := by cases d <;> rfl
/-- A thing that is no row of cells. -/
def obj (g : Nat) (o : Obj) : Res where
  fp := [g]
  sat w := w.heap[g]? = some o
  lt w h b hb := by simp at hb; subst hb; exact lt_of_heap h
  loc w w' h hk := by rw [hk g (by simp)]; exact h

section
variable {P : Program} {n m : Nat} {ro : Option Nat} {ds : List Deferred} {ops : Array Oper} {Q : Post} {rest : List Oper} {env : Env} {w : World} {o : Oper} {d : Nat}
theorem calls_fen {f : FuncId} {args : Array Value} {R : Ending → World → Prop} (h : Calls P f args w R) : CallsIn (fen ro) m P f args w R := (callsIn_wide (n := m)).2 h
theorem op_in {a : Act} {K : Act → World → Prop} (hp : plainOp o = true) (h : o.wp P a w (fun b w' => K (pls b ds) w') (sh ds Q)) : o.wpIn (fen ro) m P (pls a ds) w K Q := by
  refine ⟨fun _ _ => trivial, ?_⟩
  rw [Oper.semAt_eq _ _ _ (fun c hc => by simp [plainOp, hc] at hp)]
  unfold Oper.wp at h
  have he : (pls a ds).eval = a.eval := rfl
  rw [he]
  generalize (execOp a.eval o).run P w = r at h ⊢
  cases r with
  | halt x w' => cases x <;> simp only [Oper.upon, Oper.uponIn] at h ⊢ <;> exact h
  | ok x w' =>
    cases x with
    | value v => simp only [Oper.upon, Oper.uponIn] at h ⊢; rw [← pls_put]; exact h
    | skip => simp only [Oper.upon, Oper.uponIn] at h ⊢; rw [← pls_put]; exact h
    | defer dd => simp only [Oper.upon, Oper.uponIn] at h ⊢; rw [pls_put] at h; exact h
    | enter f args =>
      simp only [Oper.upon, Oper.uponIn] at h ⊢
      refine ⟨fun h => by simp [fen, Fence.wide] at h, calls_fen (Calls.mono h fun e w' he => ?_)⟩
      cases e with
      | returned v => show K _ _; rw [← pls_put]; exact he
      | panicked c => exact he
      | outgrown => obtain ⟨b, u, hb⟩ := he; exact ⟨_, _, hb⟩
    | row r args =>
      simp only [Oper.upon, Oper.uponIn] at h ⊢
      refine ⟨fun h => by simp [fen, Fence.wide] at h, fun c cs _ => ?_⟩
      obtain ⟨v, w', hr, s⟩ := h c cs
      exact ⟨v, w', by show K _ _; rw [← pls_put]; exact hr, stepsIn_wide.2 s⟩
    | _ => exact h.elim
theorem list_in (hL : ∀ a w, ¬ Q .outgrown a w) : ∀ (l : List Oper) (a : Act) (w : World), l.all plainOp = true → wpList P ops (sh ds Q) l a w → wpListIn (fen ro) m P ops Q l (pls a ds) w
  | [], a, w, _, h => h
  | o :: l, a, w, hp, h => by
    simp only [List.all_cons, Bool.and_eq_true] at hp
    unfold wpList at h
    unfold wpListIn
    split at h
    · rename_i hw
      rw [if_pos (by exact hw)]
      rcases h with h | ⟨_, b, u, hb⟩
      · exact op_in hp.1 (Oper.wp_mono (fun b w' hb => list_in hL l b w' hp.2 hb) h)
      · exact absurd hb (hL _ _)
    · rename_i hw
      rw [if_neg (by exact hw)]
      exact ⟨fun _ _ => trivial, by rw [← pls_put]; exact list_in hL l _ w hp.2 h⟩
def NO (Q : Post) : Prop := ∀ a w, ¬ Q .outgrown a w
theorem NO.then_ {K : Act → World → Prop} (h : NO Q) : NO (Exit.then K Q) := fun a w => h a w
theorem NO.block {id : Nat} (h : NO Q) : NO (Exit.inBlock id Q) := fun a w => h a w
theorem NO.round {l : Nat} {R : Ending → World → Prop} : NO (roundPost P l R) := fun a w h => h
theorem NO.none : NO (fun _ _ _ => False) := fun a w h => h
theorem NO.body {fn : Func} {R : Value → World → Prop} : NO (bodyPostM (fen ro) m P fn fun e w' => ∃ v, e = .returned v ∧ R v w') := fun a w ⟨v, h, _⟩ => by cases h
theorem NO.body' {fn : Func} {R : World → Prop} : NO (bodyPostM (fen ro) m P fn fun e w' => (∃ v, e = .returned v) ∧ R w') := fun a w ⟨⟨v, h⟩, _⟩ => by cases h
/-- What is asked at a panic hangs on no temporaries; nothing is asked that lets a walk out. -/
def HQI (ds : List Deferred) (Q : Post) : Prop := HQ (sh ds Q) ∧ ∀ a w, ¬ Q .outgrown a w
theorem HQI.then_ {K : Act → World → Prop} (h : HQI ds Q) : HQI ds (Exit.then K Q) := ⟨fun c a d v w => h.1 c a d v w, fun a w => h.2 a w⟩
theorem HQI.block {id : Nat} (h : HQI ds Q) : HQI ds (Exit.inBlock id Q) := ⟨fun c a d v w => h.1 c a d v w, fun a w => h.2 a w⟩
theorem HQI.round {l : Nat} {R : Ending → World → Prop} : HQI ds (roundPost P l R) := ⟨fun c a d v w h => h.elim, fun a w h => h⟩
theorem any_in (hL : ∀ a w, ¬ Q .outgrown a w) (hp : ∀ (i : Nat) (o : Oper), ops[i]? = some o → plainOp o = true) : ∀ (f : Nat) (listed : Array Bool) (a : Act) (w : World), wpAny P .any ops (sh ds Q) f listed a w → wpAnyIn (fen ro) m P .any ops Q f listed (pls a ds) w
  | 0, _, _, _, h => h
  | f + 1, listed, a, w, h => by
    refine ⟨h.1, fun i hi => ?_⟩
    have h1 := h.2 i hi
    unfold wpOp at h1
    unfold wpOpIn
    cases ho : ops[i]? with
    | none => simp only [ho] at h1 ⊢; exact any_in hL hp f _ a w h1
    | some o =>
      simp only [ho] at h1 ⊢
      split at h1
      · rename_i hw
        rw [if_pos (by exact hw)]
        rcases h1 with h1 | ⟨_, b, u, hb⟩
        · exact op_in (hp i o ho) (Oper.wp_mono (fun b w' hb => any_in hL hp f _ b w' hb) h1)
        · exact absurd hb (hL _ _)
      · rename_i hw
        rw [if_neg (by exact hw)]
        exact ⟨fun _ _ => trivial, by rw [← pls_put]; exact any_in hL hp f _ _ w h1⟩

theorem run_equal_func_nil {t : TypeId} {f : Fn} {fi ca : Array Value} (ht : (P.underlying t).map (fun d => match d with | .func _ _ _ => true | _ => false) = some true) : (Op.equal t (.func f fi ca) .nilFunc).run P w = .ok false w := by
  obtain ⟨d, hd, h⟩ := Option.map_eq_some_iff.1 ht
  unfold Op.equal
  rw [show Op.maxDepth = 9999 + 1 from rfl]
  unfold Op.equalIn
  cases d <;> first | (cases h; done) | simp [run_underlying hd]
/-- A function against nil. -/
theorem Ex.eqFn {t t' : TypeId} {x : Operand} {f : Fn} {fi ca : Array Value} {dst : Option Nat} {ty : TypeId} {pos : String} {aft : Array Edge} {g : Option (Nat × Bool)} (ht : (P.underlying t).map (fun d => match d with | .func _ _ _ => true | _ => false) = some true) (hx : ev env x = some (.func f fi ca)) :
    Ex P n env (Oper.mk dst (.binOp .eql t x (.const .nilFunc) t') ty pos aft g) (.bool false) w :=
  Ex.bin hx rfl (eqGuard_ok _ _ _ _ _ _ (by simp) (by simp)) (by simp [binOp, run_equal_func_nil ht])

/-! ### The words -/
def WI (P : Program) (ro : Option Nat) (n : Nat) (ds : List Deferred) (c : Code) (Q : Post) (env : Env) (w : World) : Prop := ∀ a, Fit n env a → c.wpIn (fen ro) 0 P Q (pls a ds) w
def WLI (P : Program) (ro : Option Nat) (n : Nat) (ds : List Deferred) (ops : Array Oper) (Q : Post) (rest : List Oper) (env : Env) (w : World) : Prop := ∀ a, Fit n env a → wpListIn (fen ro) 0 P ops Q rest (pls a ds) w
theorem WI.sub {c : Code} {env' : Env} (s : Sub env env') (k : WI P ro n ds c Q env' w) : WI P ro n ds c Q env w := fun a ha => k a (ha.sub s)
theorem WI.seq {x y : Code} (h : WI P ro n ds x (Exit.then (y.wpIn (fen ro) 0 P Q) Q) env w) : WI P ro n ds (.seq x y) Q env w := fun a ha => wpIn_seq (h a ha)
theorem WI.region {id : Nat} {l : List Oper} (hL : NO Q) (hp : l.all plainOp = true) (h : WL P n l.toArray (sh ds Q) l env w) : WI P ro n ds (.region id l.toArray false) Q env w := fun a ha => wpIn_region_lit (list_in hL l a w hp (h a ha))
theorem WI.regionN {id : Nat} {l : List Oper} (h : WLI P ro n ds l.toArray Q l env w) : WI P ro n ds (.region id l.toArray false) Q env w := fun a ha => wpIn_region_lit (h a ha)
theorem WI.draw {id : Nat} {l : List Oper} (S : World → Prop) (fin : List Nat) (r : PT) (hm : P.follows .mixedOrders = true) (hsel : Region.noSelect l.toArray = true) (hlen : r.len l.length = true) (hk : planOk l.toArray fin r (Array.replicate l.length false) = true)
    (hQ : HQI ds Q) (hp : l.all plainOp = true) (h : WP P n l (sh ds Q) S fin r env w.drew) : WI P ro n ds (.region id l.toArray true) Q env w := fun a ha => by
  refine wpIn_region_any hm (any_in hQ.2 (fun i o ho => List.all_eq_true.1 hp o (List.mem_of_getElem? (by simpa using ho))) _ _ a _ (any_of_F (fin := fin) _ S _ _ _ ?_))
  have := plan_sound (P := P) hsel hQ.1 r l.length S (Array.replicate l.length false) a w.drew hlen hk (h a ha)
  simpa using this
theorem WI.skip (h : WX n (sh ds Q) .normal env w) : WI P ro n ds .skip Q env w := fun a ha => wpIn_skip (h a ha)
theorem WI.ret (h : WX n (sh ds Q) .ret env w) : WI P ro n ds .ret Q env w := fun a ha => wpIn_ret (h a ha)
theorem WI.exit {id : Nat} (h : WX n (sh ds Q) (.exit id) env w) : WI P ro n ds (.exit id) Q env w := fun a ha => wpIn_exit (h a ha)
theorem WI.block {id : Nat} {c : Code} (h : WI P ro n ds c (Exit.inBlock id Q) env w) : WI P ro n ds (.block id c) Q env w := fun a ha => wpIn_block (h a ha)
theorem WI.cond {c : Operand} {x y : Code} {t : Bool} (hc : ev env c = some (.bool t)) (ht : t = true → WI P ro n ds x Q env w) (hf : t = false → WI P ro n ds y Q env w) : WI P ro n ds (.cond c x y) Q env w :=
  fun a ha => wpIn_cond_split (ha.eval hc) (fun h => ht h a ha) (fun h => hf h a ha)
theorem WI.cond_dec {c : Operand} {x y : Code} {p : Prop} [Decidable p] (hc : ev env c = some (.bool (decide p))) (ht : p → WI P ro n ds x Q env w) (hf : ¬ p → WI P ro n ds y Q env w) : WI P ro n ds (.cond c x y) Q env w :=
  WI.cond hc (fun h => ht (of_decide_eq_true h)) (fun h => hf (of_decide_eq_false h))
theorem WI.yes {c : Operand} {x y : Code} (hc : ev env c = some (.bool true)) (ht : WI P ro n ds x Q env w) : WI P ro n ds (.cond c x y) Q env w := fun a ha => wpIn_cond_true (ha.eval hc) (ht a ha)
theorem WI.no {c : Operand} {x y : Code} (hc : ev env c = some (.bool false)) (hf : WI P ro n ds y Q env w) : WI P ro n ds (.cond c x y) Q env w := fun a ha => wpIn_cond_false (ha.eval hc) (hf a ha)
theorem WI.loop {σ : Type} {c : Code} (E : σ → Env) (I : σ → World → Prop) (μ : σ → Nat) (s0 : σ) (h0 : I s0 w) (hs : Sub env (E s0))
    (round : ∀ s wr, I s wr → WI P ro n ds c (Exit.then (fun a w' => ∃ s' b, μ s' < μ s ∧ I s' w' ∧ a = pls b ds ∧ Fit n (E s') b) Q) (E s) wr) : WI P ro n ds (.loop c) Q env w := by
  intro a ha b k cs hro hb hr
  have key : ∀ m s a w, μ s = m → I s w → Fit n (E s) a →
      ∃ e a' w', Q e a' w' ∧ ArrivesIn (Machine.fenced P (fen ro)) P (lone (b.atR (pls a ds) (.code c :: .inLoop c :: k)) cs w) b k cs e a' w' := by
    intro m
    induction m using Nat.strongRecOn with
    | _ m ih =>
      intro s a w hm hI hF
      obtain ⟨e, a₁, w₁, hq, harr⟩ := round s w hI a hF b (.inLoop c :: k) cs hro hb hr
      cases e with
      | normal =>
        obtain ⟨s', b', hlt, hI', rfl, hF'⟩ := hq
        obtain ⟨e₂, a₂, w₂, hq₂, harr₂⟩ := ih (μ s') (hm ▸ hlt) s' b' w₁ rfl hI' hF'
        exact ⟨e₂, a₂, w₂, hq₂, .of_steps (StepsIn.trans harr (.one (fenced_calm hb hr rfl) stepR_inLoop)) harr₂⟩
      | exit id => exact ⟨_, a₁, w₁, hq, .pass (x := .inLoop c) rfl (fun _ _ => .inl (by simp)) harr⟩
      | goto l => exact ⟨_, a₁, w₁, hq, .pass (x := .inLoop c) rfl (fun _ _ => .inl (by simp)) harr⟩
      | ret => exact ⟨_, a₁, w₁, hq, .pass (x := .inLoop c) rfl (fun _ _ => .inl (by simp)) harr⟩
      | panic ch => exact ⟨_, a₁, w₁, hq, .pass (x := .inLoop c) rfl (fun _ _ => .inl (by simp)) harr⟩
      | outgrown => exact ⟨_, a₁, w₁, hq, .pass (x := .inLoop c) rfl (fun _ _ => .inl (by simp)) harr⟩
  obtain ⟨e, a', w', hq, harr⟩ := key _ s0 a w rfl h0 (ha.sub hs)
  exact ⟨e, a', w', hq, .of_steps (.one (fenced_calm hb hr rfl) stepR_loop) harr⟩

/-! ### Exits -/
theorem WI.next {y : Code} (h : WI P ro n ds y Q env w) : WX n (sh ds (Exit.then (y.wpIn (fen ro) 0 P Q) Q)) .normal env w := fun a ha => h a ha
theorem WI.ret_then {K : Act → World → Prop} (h : WX n (sh ds Q) .ret env w) : WX n (sh ds (Exit.then K Q)) .ret env w := fun a ha => h a ha
theorem WI.exit_then {K : Act → World → Prop} {id : Nat} (h : WX n (sh ds Q) (.exit id) env w) : WX n (sh ds (Exit.then K Q)) (.exit id) env w := fun a ha => h a ha
theorem WI.ret_block {id : Nat} (h : WX n (sh ds Q) .ret env w) : WX n (sh ds (Exit.inBlock id Q)) .ret env w := fun a ha => h a ha
theorem WI.normal_block {id : Nat} (h : WX n (sh ds Q) .normal env w) : WX n (sh ds (Exit.inBlock id Q)) .normal env w := fun a ha => h a ha
theorem WI.exit_block {id : Nat} (h : WX n (sh ds Q) .normal env w) : WX n (sh ds (Exit.inBlock id Q)) (.exit id) env w := fun a ha => by
  have := h a ha
  simp only [sh, Exit.inBlock, if_true] at this ⊢; exact this
theorem WI.again {σ : Type} {E : σ → Env} {I : σ → World → Prop} {μ : σ → Nat} {s : σ} (s' : σ) (hlt : μ s' < μ s) (hI : I s' w) (hs : Sub env (E s')) :
    WX n (sh ds (Exit.then (fun a w' => ∃ s' b, μ s' < μ s ∧ I s' w' ∧ a = pls b ds ∧ Fit n (E s') b) Q)) .normal env w := fun a ha => ⟨s', a, hlt, hI, rfl, ha.sub hs⟩

/-! ### Operations one by one -/
theorem WLI.nil (h : WX n (sh ds Q) .normal env w) : WLI P ro n ds ops Q [] env w := fun a ha => wpListIn_nil (h a ha)
theorem WLI.ex {v : Value} (hp : plainOp o = true) (hg : o.guard = none) (hd : o.dst = some d) (hn : Nat.ble (d + 1) n = true) (h : Ex P n env o v w) (k : WLI P ro n ds ops Q rest ((d, v) :: env) w) : WLI P ro n ds ops Q (o :: rest) env w := by
  intro a ha
  refine wpListIn_plain hg fun K hK => op_in hp ?_
  unfold Oper.wp
  rw [h a ha, Oper.upon_value, hd]
  exact hK _ _ (k _ (ha.put hn v))
theorem WLI.yield {x : Operand} {l : Nat} {args : List Operand} {vs : List Value} {ts : Array TypeId} {ty : TypeId} {pos : String} {aft : Array Edge} {R : Ending → World → Prop} (hn : Nat.ble (d + 1) n = true) (hx : ev env x = some (.func (.yield l) #[] #[])) (hv : evs env args = some vs)
    (h : YieldAt (fen ro) 0 P l vs.toArray w R) (hR : ∀ e w', R e w' → ∃ v, e = .returned v ∧ WLI P ro n ds ops Q rest ((d, v) :: env) w') :
    WLI P ro n ds ops Q (Oper.mk (some d) (.call { callee := .value x, args := args.toArray, argTypes := ts }) ty pos aft none :: rest) env w := by
  intro a ha
  obtain ⟨fn, tmps, assign, body, hy, hr⟩ := h
  refine wpListIn_plain rfl fun K hK => ⟨fun _ _ => trivial, ?_⟩
  rw [Oper.semAt_eq _ _ _ (fun c hc => by simp at hc)]
  have h1 := ha.evals hv
  have h0 : (pls a ds).eval x = .func (.yield l) #[] #[] := ha.eval hx
  have e1 : args.toArray.map (pls a ds).eval = vs.toArray := by apply Array.toList_inj.1; rw [Array.toList_map]; exact h1
  have hrun : (execOp (pls a ds).eval (Oper.mk (some d) (.call { callee := .value x, args := args.toArray, argTypes := ts }) ty pos aft none)).run P w = .ok (.round l fn tmps assign body) w := by
    simp only [execOp, resolve, e1, h0, Deferred.ofValue, Sem.run_bind, Sem.run_pure, Result.andThen_ok, invoke]
    simp [hy]
  rw [hrun, Oper.uponIn_round]
  refine ⟨fun h => by simp [fen, Fence.wide] at h, RoundIn.mono hr fun e w' he => ?_⟩
  obtain ⟨v, rfl, hk⟩ := hR e w' he
  show K _ _
  have := hK _ _ (hk _ (ha.put hn v))
  rw [pls_put] at this
  exact this

/-! ### Entry and return -/
theorem WI.enter {f : FuncId} {fn : Func} {c : Code} {args : List Value} {R : Ending → World → Prop} (hf : P.funcs[f]? = some fn) (hb : fn.body = some c) (hn : fn.ntmps = n)
    (hle : Nat.ble args.length n = true) (he : argEnv 0 args = env) (h : WI P none n [] c (bodyPostM (fen none) 0 P fn R) env w) : Calls P f args.toArray w R := by
  refine callsIn_wide.1 (callsIn_of_wp_marks (F := fen none) (n := 0) hf hb trivial (h { tmps := args.toArray ++ Array.replicate (fn.ntmps - args.toArray.size) undef, defers := [] } ?_) rfl)
  have hle' := Nat.le_of_ble_eq_true hle
  refine ⟨rfl, by simp [hn]; omega, fun i v hi => ?_⟩
  rw [← he] at hi
  obtain ⟨_, h2⟩ := look_argEnv args 0 i v hi
  simp only [Nat.sub_zero] at h2
  have hlt : i < args.length := (List.getElem?_eq_some_iff.1 h2).1
  simp only [Array.getD_eq_getD_getElem?]
  rw [Array.getElem?_append_left (by simpa using hlt)]
  simp [h2]
theorem WI.enterG {f : FuncId} {fn : Func} {c : Code} {args : List Value} {R : Value → World → Prop} (hf : P.funcs[f]? = some fn) (hb : fn.body = some c) (hn : fn.ntmps = n)
    (hle : Nat.ble args.length n = true) (he : argEnv 0 args = env) (h : WI P none n [] c (bodyPostM (fen none) 0 P fn fun e w' => ∃ v, e = .returned v ∧ R v w') env w) : Gives P f args.toArray w R := WI.enter hf hb hn hle he h
theorem WI.ret0 {fn : Func} {R : Ending → World → Prop} (hr : fn.results = #[]) (h : R (.returned (.tuple #[])) w) : WX n (sh [] (bodyPostM (fen none) 0 P fn R)) .ret env w := fun a ha => by
  have hd : (pls a []).defers = [] := by simp [pls, ha.defers]
  show LeavesInM _ _ _ _ _ _ (pls a []).defers .returning w
  rw [hd]
  exact ⟨_, results_none hr _ _ _, h⟩
theorem WI.end0 {fn : Func} {R : Ending → World → Prop} (hr : fn.results = #[]) (h : R (.returned (.tuple #[])) w) : WX n (sh [] (bodyPostM (fen none) 0 P fn R)) .normal env w := fun a ha => by
  have hd : (pls a []).defers = [] := by simp [pls, ha.defers]
  show LeavesInM _ _ _ _ _ _ (pls a []).defers .returning w
  rw [hd]
  exact ⟨_, results_none hr _ _ _, h⟩
/-- A result that lies in a cell. -/
theorem WI.retc {fn : Func} {R : Ending → World → Prop} {t : Nat} {ty : TypeId} {p : Addr} {v : Value} (hr : fn.results = #[.cell t ty]) (hv : look env t = some (.pointer (some p)))
    (hl : (loadVar ty p).run P w = .ok v w) (h : R (.returned v) w) : WX n (sh [] (bodyPostM (fen none) 0 P fn R)) .ret env w := fun a ha => by
  have hd : (pls a []).defers = [] := by simp [pls, ha.defers]
  show LeavesInM _ _ _ _ _ _ (pls a []).defers .returning w
  rw [hd]
  refine ⟨v, ?_, h⟩
  have h1 := ha.has t _ hv
  rw [Array.getD_eq_getD_getElem?] at h1
  simp [pls, results, hr, h1, asAddr, hl]
abbrev markD (D : Nat) : Deferred := { target := .collected D, args := #[] }
/-- The same behind a range over a function: the mark is taken first. -/
theorem WI.retm {fn : Func} {R : Ending → World → Prop} {t D : Nat} {ty : TypeId} {p : Addr} {v : Value} (hD : w.heap[D]? = some (.deferred (some []))) (hr : fn.results = #[.cell t ty]) (hv : look env t = some (.pointer (some p)))
    (hl : (loadVar ty p).run P (w.putObj D (.deferred none)) = .ok v (w.putObj D (.deferred none))) (h : R (.returned v) (w.putObj D (.deferred none))) : WX n (sh [markD D] (bodyPostM (fen none) 0 P fn R)) .ret env w := fun a ha => by
  have hd : (pls a [markD D]).defers = [markD D] := by simp [pls, ha.defers]
  show LeavesInM _ _ _ _ _ _ (pls a [markD D]).defers .returning w
  rw [hd]
  refine ⟨by simp, .inl ⟨D, _, rfl, run_takeDeferred hD, v, ?_, h⟩⟩
  have h1 := ha.has t _ hv
  rw [Array.getD_eq_getD_getElem?] at h1
  simp [pls, results, hr, h1, asAddr, hl]

/-! ### The statement -/
theorem keep_put {g : Nat} (o : Obj) : Keep (· ∈ [g]) w (w.putObj g o) := ⟨rfl, rfl, rfl, by simp, fun k _ hk => World.putObj_heap_other (by simpa using hk)⟩
theorem Mem.putO {w0 : World} {F : Nat → Prop} {rs : List Res} {g i : Nat} {o : Obj} (M : Mem w0 w F rs) (hi : rs[i]? = some (obj g o)) (o' : Obj) : Mem w0 (w.putObj g o') F (rs.set i (obj g o')) :=
  M.turn hi (keep_put o') (World.putObj_heap_same (lt_of_heap (M.get hi))) (fun b hb => .inl hb)
theorem obj_new {w0 : World} {F : Nat → Prop} {rs : List Res} (M : Mem w0 w F rs) (o : Obj) : Mem w0 (w.alloc o) F (obj w.heap.size o :: rs) := M.grow (Keep.alloc _ _ _) (World.alloc_heap_new w _) (by simp [obj])
/-- One more: the loop's record, at the place l, is ready; D: the block for deferred calls. -/
theorem WI.range {w0 : World} {F : Nat → Prop} {RS : Nat → List Res} {p : Nat → Prop} {N t gf : Nat} {g : Operand} {assign body : Code} {lb : List Value} {enc : Nat → Value} {fng : Func}
    (M : Mem w0 w F (RS 0)) (hp0 : p 0) (hg : ev env g = some (.func (.func gf) #[] lb.toArray)) (hf : P.funcs[gf]? = some fng) (hnm : (fng.name == "runtime.NumGoroutine") = false) (hbd : fng.body.isNone = false) (hn : Nat.ble (t + 1) n = true)
    (hit : ∀ (l : Nat) (J : Nat → World → Prop) (W : World), (∀ k W W', J k W → Keep nof W W' → J k W') → (∀ k W, J k W → ∃ r s, Mem w0 W F (r :: s :: RS k)) →
      (∀ k W, k < N → J k W → YieldAt (fen none) 0 P l #[enc k] W fun e W' => e = .returned (.bool true) ∧ J (k + 1) W') → J 0 W →
      Calls P gf (.func (.yield l) #[] #[] :: lb).toArray W fun e W' => (∃ v, e = .returned v) ∧ J N W')
    (hround : ∀ (l D k : Nat) (W : World) (r : Loop), k < N → p k → r.state = .ready → r.pending = none → Mem w0 W F (obj l (.loop r) :: obj D (.deferred (some [])) :: RS k) →
      WI P (some l) n [] assign (Exit.then (fun a₁ w₁ => ∃ w₂, (Instr.beginRound l).run P w₁ = .ok () w₂ ∧ body.wpIn (fen (some l)) 0 P (roundPost P l fun e W' => e = .returned (.bool true) ∧ p (k + 1) ∧ Mem w0 W' F (obj l (.loop r) :: obj D (.deferred (some [])) :: RS (k + 1))) a₁ w₂) (fun _ _ _ => False)) ((t, enc k) :: env) W)
    (hdone : ∀ (D : Nat) (W : World), p N → Mem w0 W F (obj D (.deferred (some [])) :: RS N) → WX n (sh [markD D] Q) .normal env W) :
    WI P none n [] (.rangeFunc g #[t] assign body) Q env w := by
  intro a ha
  refine wpIn_rangeFunc ?_
  intro fn hfn
  obtain ⟨r, hrd⟩ : ∃ r : Loop, r = { state := .ready, pending := none, fn, tmps := a.tmps, params := #[t], assign, body, defers := w.heap.size } := ⟨_, rfl⟩
  obtain ⟨W1, hW1⟩ : ∃ W1, (w.alloc (.deferred (some []))).alloc (.loop r) = W1 := ⟨_, rfl⟩
  have M1 : Mem w0 W1 F (obj (w.heap.size + 1) (.loop r) :: obj w.heap.size (.deferred (some [])) :: RS 0) := by
    have h2 := obj_new (obj_new M (.deferred (some []))) (.loop r)
    rw [hW1] at h2
    rwa [World.size_alloc] at h2
  have hact : ({ (pls a []) with defers := [markD w.heap.size] ++ (pls a []).defers } : Act) = pls a [markD w.heap.size] := by simp [pls, ha.defers]
  have hg' : (pls a []).eval g = .func (.func gf) #[] lb.toArray := ha.eval hg
  refine ⟨w.heap.size + 1, [markD w.heap.size], W1, { target := .fn (.func gf) lb.toArray, args := #[.func (.yield (w.heap.size + 1)) #[] #[]] }, W1, gf, (.func (.yield (w.heap.size + 1)) #[] #[] :: lb).toArray, W1, ?_, ?_, ?_, ?_, fun h => by simp [fen, Fence.wide] at h, ?_⟩
  · rw [← hW1, hrd]; exact run_enterLoop_outer _ _ _ _ _
  · simp only [resolve, hg']
    simp [go_sem]
  · intro _ _; trivial
  · simp only [invoke, callFunc, Sem.run_bind, run_program, Result.andThen_ok, hf, hnm, hbd, Bool.false_eq_true, if_false]
    simp
  · refine calls_fen (Calls.mono (hit (w.heap.size + 1) (fun k W => p k ∧ Mem w0 W F (obj (w.heap.size + 1) (.loop r) :: obj w.heap.size (.deferred (some [])) :: RS k)) W1 (fun k W W' h K => ⟨h.1, h.2.step K⟩) (fun k W h => ⟨_, _, h.2⟩) ?_ ⟨hp0, M1⟩) ?_)
    · rintro k W hk ⟨hpk, MW⟩
      have hl : W.heap[w.heap.size + 1]? = some (.loop r) := MW.get (i := 0) rfl
      have hy := run_yield (P := P) (args := #[enc k]) hl (by rw [hrd]; rfl)
      refine ⟨r.fn, _, r.assign, r.body, hy, roundIn_of_wpIn (F := fen none) trivial ?_⟩
      have hh := hround (w.heap.size + 1) w.heap.size k W r hk hpk (by rw [hrd]) (by rw [hrd]) MW { tmps := a.tmps.setIfInBounds t (enc k), defers := [] } ?_
      · subst hrd
        rw [show (fen none).inRound (w.heap.size + 1) = fen (some (w.heap.size + 1)) from rfl]
        simpa [pls] using hh
      · have := ha.put hn (enc k)
        have hx : a.put (some t) (enc k) = { tmps := a.tmps.setIfInBounds t (enc k), defers := [] } := by simp [Act.put, ha.defers]
        rw [← hx]; exact this
    · rintro e W2 ⟨⟨v, rfl⟩, hpN, MW⟩
      have hl : W2.heap[w.heap.size + 1]? = some (.loop r) := MW.get (i := 0) rfl
      have hE := run_endLoop (P := P) hl (by rw [hrd]; simp)
      have hpend : r.pending = none := by rw [hrd]
      rw [hpend] at hE
      refine ⟨none, _, hE, ?_⟩
      have := hdone _ _ hpN (Mem.drop1 (Mem.putO (i := 0) MW rfl (.loop { r with state := .exhausted }))) a ha
      show Q .normal _ _
      rw [hact]
      rw [hpend] at this
      exact this
/-- The round's marks: it begins, it ends. -/
theorem WI.begin {w0 : World} {F : Nat → Prop} {rs : List Res} {l i : Nat} {r : Loop} {body : Code} {Q' Q'' : Post} (M : Mem w0 w F rs) (hi : rs[i]? = some (obj l (.loop r))) (hr : r.state = .ready)
    (h : ∀ w2, Mem w0 w2 F (rs.set i (obj l (.loop { r with state := .busy }))) → WI P (some l) n [] body Q' env w2) :
    WX n (sh [] (Exit.then (fun a₁ w₁ => ∃ w₂, (Instr.beginRound l).run P w₁ = .ok () w₂ ∧ body.wpIn (fen (some l)) 0 P Q' a₁ w₂) Q'')) .normal env w := fun a ha =>
  ⟨_, run_beginRound (M.get hi) hr, h _ (M.putO hi _) a ha⟩
theorem WI.close {w0 : World} {F : Nat → Prop} {rs : List Res} {l i : Nat} {r : Loop} {R : Ending → World → Prop} (M : Mem w0 w F rs) (hi : rs[i]? = some (obj l (.loop r)))
    (h : ∀ w2, Mem w0 w2 F (rs.set i (obj l (.loop { r with state := .ready, pending := none }))) → R (.returned (.bool true)) w2) :
    WX n (sh [] (roundPost P l R)) .normal env w := fun a ha =>
  ⟨_, _, run_endRound none (M.get hi), h _ (M.putO hi _)⟩
end
end Go.Sx
