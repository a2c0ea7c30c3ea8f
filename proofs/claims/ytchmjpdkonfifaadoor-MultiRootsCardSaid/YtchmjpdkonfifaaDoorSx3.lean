/- A plan where three that act may come first, in any order. My own text. -/
import Derived.Test.YtchmjpdkonfifaaDoorSxg
set_option linter.unusedVariables false
set_option linter.unusedSimpArgs false
namespace Go.Sx
open Go.RowKit
inductive PT3 where
  | one (i k : Nat) (r : PT3)
  | three (i : Nat) (r : PT) (j : Nat) (s : PT) (k : Nat) (t : PT)
def PT3.len : PT3 → Nat → Bool
  | .one _ _ r, m => match m with
    | 0 => false
    | m + 1 => r.len m
  | .three _ r _ s _ t, m => match m with
    | 0 => false
    | m + 1 => r.len m && s.len m && t.len m
def planOk3 (ops : Array Oper) (fin : List Nat) : PT3 → Array Bool → Bool
  | .one i 0 r, listed => (Region.ready .any ops listed).contains i && Region.free .any ops listed i && planOk3 ops fin r (listed.setIfInBounds i true)
  | .one i (_ + 1) r, listed => (Region.ready .any ops listed).contains i && Region.free .any ops listed i && finOk ops fin listed i && planOk3 ops fin r (listed.setIfInBounds i true)
  | .three i r j s k t, listed => (Region.ready .any ops listed).all (fun q => q == i || q == j || q == k) && !(Region.ready .any ops listed).isEmpty && planOk ops fin r (listed.setIfInBounds i true) && planOk ops fin s (listed.setIfInBounds j true) && planOk ops fin t (listed.setIfInBounds k true)
def actP (P : Program) (ops : Array Oper) (Q : Post) (fin : List Nat) (i : Nat) (r : PT) (S : World → Prop) (a : Act) (w : World) : Prop :=
  wpOp P ops Q i (fun a' w' => (fin.contains i = true ∧ ∃ S', wpPlan P ops Q fin r S' a' w') ∨ (∃ S', (∀ u, S' u → S u) ∧ (S w → S' w') ∧ wpPlan P ops Q fin r S' a' w')) a w
def wpPlan3 (P : Program) (ops : Array Oper) (Q : Post) (fin : List Nat) : PT3 → (World → Prop) → Act → World → Prop
  | .one i 0 r, S, a, w => ∃ o v, ops[i]? = some o ∧ YieldsIf P ops (fun _ => True) o v a ∧ wpPlan3 P ops Q fin r S (a.put o.dst v) w
  | .one i (_ + 1) r, S, a, w => S w ∧ ∃ o v, ops[i]? = some o ∧ YieldsIf P ops S o v a ∧ wpPlan3 P ops Q fin r S (a.put o.dst v) w
  | .three i r j s k t, S, a, w => actP P ops Q fin i r S a w ∧ actP P ops Q fin j s S a w ∧ actP P ops Q fin k t S a w
section
variable {P : Program} {ops : Array Oper} {Q : Post} {fin : List Nat}
theorem plan_sound3 (hsel : Region.noSelect ops = true) (hQ : ∀ c a d v w, Q (.panic c) (Act.put a d v) w → Q (.panic c) a w) : ∀ (p : PT3) (m : Nat) (S : World → Prop) (listed : Array Bool) (a : Act) (w : World),
    p.len m = true → planOk3 ops fin p listed = true → wpPlan3 P ops Q fin p S a w → anyF P ops Q fin m S listed a w
  | .one i 0 r, 0, S, listed, a, w, hl, hk, h => by cases hl
  | .one i 0 r, m + 1, S, listed, a, w, hl, hk, h => by
    simp only [planOk3, Bool.and_eq_true] at hk
    obtain ⟨⟨h1, h2⟩, h3⟩ := hk
    obtain ⟨o, v, hi, hy, hr⟩ := h
    exact anyF_first (held := false) hi (Region.noSelect_spec hsel) (fun c a w h => hQ c a _ _ w h) _ S listed a w (fun e => by cases e) (Region.free_spec hi h2) (by simpa using h1) (hy.imp (fun ⟨h1, h2⟩ => ⟨h1, fun w _ => h2 w trivial⟩) id) (fun e => by cases e) (plan_sound3 hsel hQ r m S _ _ _ hl h3 hr)
  | .one i (k + 1) r, 0, S, listed, a, w, hl, hk, h => by cases hl
  | .one i (k + 1) r, m + 1, S, listed, a, w, hl, hk, h => by
    simp only [planOk3, Bool.and_eq_true] at hk
    obtain ⟨⟨⟨h1, h2⟩, h4⟩, h3⟩ := hk
    obtain ⟨hS, o, v, hi, hy, hr⟩ := h
    exact anyF_first (held := true) hi (Region.noSelect_spec hsel) (fun c a w h => hQ c a _ _ w h) _ S listed a w (fun _ => h4) (Region.free_spec hi h2) (by simpa using h1) (hy.imp (fun ⟨h1, h2⟩ => ⟨h1, fun w h => h2 w (h rfl)⟩) id) (fun _ => hS) (plan_sound3 hsel hQ r m S _ _ _ hl h3 hr)
  | .three i r j s k t, 0, S, listed, a, w, hl, hk, h => by cases hl
  | .three i r j s k t, m + 1, S, listed, a, w, hl, hk, h => by
    simp only [planOk3, Bool.and_eq_true] at hk
    obtain ⟨⟨⟨⟨h1, h2⟩, h3⟩, h4⟩, h5⟩ := hk
    simp only [PT3.len, Bool.and_eq_true] at hl
    obtain ⟨ha, hb, hc⟩ := h
    refine ⟨fun h0 => (by rw [h0] at h2; cases h2), fun q hqr => ?_⟩
    have h6 := List.all_eq_true.1 h1 q hqr
    simp only [Bool.or_eq_true, beq_iff_eq] at h6
    rcases h6 with (rfl | rfl) | rfl
    · refine wpOp_mono (fun a' w' hd => ?_) ha
      rcases hd with ⟨hf, S', hp⟩ | ⟨S', hm, hd, hp⟩
      · exact .inl ⟨hf, S', plan_sound hsel hQ r m S' _ _ _ hl.1.1 h3 hp⟩
      · exact .inr ⟨S', hm, hd, plan_sound hsel hQ r m S' _ _ _ hl.1.1 h3 hp⟩
    · refine wpOp_mono (fun a' w' hd => ?_) hb
      rcases hd with ⟨hf, S', hp⟩ | ⟨S', hm, hd, hp⟩
      · exact .inl ⟨hf, S', plan_sound hsel hQ s m S' _ _ _ hl.1.2 h4 hp⟩
      · exact .inr ⟨S', hm, hd, plan_sound hsel hQ s m S' _ _ _ hl.1.2 h4 hp⟩
    · refine wpOp_mono (fun a' w' hd => ?_) hc
      rcases hd with ⟨hf, S', hp⟩ | ⟨S', hm, hd, hp⟩
      · exact .inl ⟨hf, S', plan_sound hsel hQ t m S' _ _ _ hl.2 h5 hp⟩
      · exact .inr ⟨S', hm, hd, plan_sound hsel hQ t m S' _ _ _ hl.2 h5 hp⟩
end
section
variable {P : Program} {n : Nat} {l : List Oper} {Q : Post} {S : World → Prop} {fin : List Nat} {env : Env} {w : World} {r : PT3} {i d : Nat} {o : Oper}
def WP3 (P : Program) (n : Nat) (l : List Oper) (Q : Post) (S : World → Prop) (fin : List Nat) (r : PT3) (env : Env) (w : World) : Prop := ∀ a, Fit n env a → wpPlan3 P l.toArray Q fin r S a w
theorem WC.draw3 {id : Nat} (S : World → Prop) (fin : List Nat) (r : PT3) (hm : P.follows .mixedOrders = true) (hsel : Region.noSelect l.toArray = true) (hlen : r.len l.length = true) (hk : planOk3 l.toArray fin r (Array.replicate l.length false) = true)
    (hQ : HQ Q) (h : WP3 P n l Q S fin r env w.drew) : WC P n (.region id l.toArray true) Q env w := fun a ha => by
  refine wp_region_any hm (any_of_F (fin := fin) _ S _ _ _ ?_)
  have := plan_sound3 (P := P) hsel hQ r l.length S (Array.replicate l.length false) a w.drew hlen hk (h a ha)
  simpa using this
theorem WP3.three {i j k : Nat} {r s t : PT} (h1 : WP P n l Q S fin (.one i 2 r) env w) (h2 : WP P n l Q S fin (.one j 2 s) env w) (h3 : WP P n l Q S fin (.one k 2 t) env w) : WP3 P n l Q S fin (.three i r j s k t) env w := fun a ha => ⟨h1 a ha, h2 a ha, h3 a ha⟩
theorem WP3.p {v : Value} (hi : l[i]? = some o) (hg : o.guard = none) (hd : o.dst = some d) (hn : Nat.ble (d + 1) n = true) (h : ∀ w, Ex P n env o v w) (k : WP3 P n l Q S fin r ((d, v) :: env) w) : WP3 P n l Q S fin (.one i 0 r) env w := fun a ha =>
  ⟨o, v, by simpa using hi, .inl ⟨by simp [Region.wanted, hg], fun w _ => h w a ha⟩, by rw [hd]; exact k _ (ha.put hn v)⟩
theorem WP3.q {v : Value} (hS : S w) (hi : l[i]? = some o) (hg : o.guard = none) (hd : o.dst = some d) (hn : Nat.ble (d + 1) n = true) (h : ∀ w, S w → Ex P n env o v w) (k : WP3 P n l Q S fin r ((d, v) :: env) w) : WP3 P n l Q S fin (.one i 1 r) env w := fun a ha =>
  ⟨hS, o, v, by simpa using hi, .inl ⟨by simp [Region.wanted, hg], fun w hw => h w hw a ha⟩, by rw [hd]; exact k _ (ha.put hn v)⟩
end
end Go.Sx
