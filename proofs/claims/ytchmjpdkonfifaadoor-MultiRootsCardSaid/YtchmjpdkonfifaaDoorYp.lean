/- Walks, written by gen.py off the translation's own print: each says what the Go function comes to. -/
import Derived.Test.YtchmjpdkonfifaaDoorY6
import Derived.Test.YtchmjpdkonfifaaDoorY7
import Derived.Test.YtchmjpdkonfifaaDoorSx3
import Derived.Test.YtchmjpdkonfifaaDoorAl
set_option linter.unusedVariables false
set_option linter.unusedSimpArgs false
namespace Go.Proofs.YtchmjpdkonfifaaDoor
open Go.Sx Go.RowKit
attribute [local irreducible] Ac Ex WL WC WX WP Gives sha

/-- Two sums, one of them at the place i. -/
def cmb (i : Nat) (x s : List UInt8) : List UInt8 := if i % 2 = 0 then dNode x s else dNode s x
theorem cmb32 (i : Nat) (x s : List UInt8) : H32 (cmb i x s) := by
  unfold cmb
  split
  · exact dNode_len _ _
  · exact dNode_len _ _
abbrev Kn := Nat × List UInt8
/-- One level: of what is known, and of the nodes that are given. -/
def rone (p : Kn) (ns : Hs) (k : Hs → Option (List Kn × Hs)) : Option (List Kn × Hs) := match ns with
  | [] => none
  | s :: t => (k t).map fun o => ((p.1 / 2, cmb p.1 p.2 s) :: o.1, o.2)
def rlv : List Kn → Hs → Option (List Kn × Hs)
  | [], ns => some ([], ns)
  | [p], ns => rone p ns fun t => some ([], t)
  | p :: q :: r, ns => if p.1 % 2 = 0 ∧ q.1 = p.1 + 1 then (rlv r ns).map fun o => ((p.1 / 2, dNode p.2 q.2) :: o.1, o.2) else rone p ns fun t => rlv (q :: r) t
def rtop : Nat → List Kn → Hs → Option (List Kn × Hs)
  | 0, l, ns => some (l, ns)
  | d + 1, l, ns => (rlv l ns).bind fun o => rtop d o.1 o.2
theorem rlv_b {p q : Kn} {r : List Kn} {ns : Hs} (h : p.1 % 2 = 0) (e : q.1 = p.1 + 1) : rlv (p :: q :: r) ns = (rlv r ns).map fun o => ((p.1 / 2, dNode p.2 q.2) :: o.1, o.2) := by rw [rlv, if_pos ⟨h, e⟩]
theorem rlv_n {p : Kn} {r : List Kn} (h : ¬ (p.1 % 2 = 0 ∧ (r.map (·.1))[0]? = some (p.1 + 1))) : rlv (p :: r) [] = none := by
  cases r with
  | nil => rfl
  | cons q r => rw [rlv, if_neg (fun e => h ⟨e.1, by simp [e.2]⟩)]; rfl
theorem rlv_s {p : Kn} {r : List Kn} {s : List UInt8} {t : Hs} (h : ¬ (p.1 % 2 = 0 ∧ (r.map (·.1))[0]? = some (p.1 + 1))) : rlv (p :: r) (s :: t) = (rlv r t).map fun o => ((p.1 / 2, cmb p.1 p.2 s) :: o.1, o.2) := by
  cases r with
  | nil => rfl
  | cons q r => rw [rlv, if_neg (fun e => h ⟨e.1, by simp [e.2]⟩)]; rfl
theorem rlv_ind {Q : List Kn → Hs → Prop} (h0 : ∀ ns, Q [] ns)
    (hb : ∀ p q r ns, p.1 % 2 = 0 → q.1 = p.1 + 1 → Q r ns → Q (p :: q :: r) ns)
    (hn : ∀ p r, ¬ (p.1 % 2 = 0 ∧ (r.map (·.1))[0]? = some (p.1 + 1)) → Q (p :: r) [])
    (hs : ∀ p r s t, ¬ (p.1 % 2 = 0 ∧ (r.map (·.1))[0]? = some (p.1 + 1)) → Q r t → Q (p :: r) (s :: t)) : ∀ (L : List Kn) (ns : Hs), Q L ns
  | [], ns => h0 ns
  | [p], [] => hn p [] (by simp)
  | [p], s :: t => hs p [] s t (by simp) (h0 t)
  | p :: q :: r, ns => by
    by_cases c : p.1 % 2 = 0 ∧ q.1 = p.1 + 1
    · exact hb p q r ns c.1 c.2 (rlv_ind h0 hb hn hs r ns)
    · have hc : ¬ (p.1 % 2 = 0 ∧ ((q :: r).map (·.1))[0]? = some (p.1 + 1)) := fun e => c ⟨e.1, by simpa using e.2⟩
      cases ns with
      | nil => exact hn p (q :: r) hc
      | cons s t => exact hs p (q :: r) s t hc (rlv_ind h0 hb hn hs (q :: r) t)
theorem ups_b' {i k : Nat} {r : List Nat} (h : i % 2 = 0) (e : k = i + 1) : ups (i :: k :: r) = i / 2 :: ups r := by subst e; exact ups_b h
/-- What a level makes lies at the places of the level above. -/
theorem rlv_places : ∀ (L : List Kn) (ns : Hs) (o : List Kn) (n2 : Hs), rlv L ns = some (o, n2) → o.map (·.1) = ups (L.map (·.1)) :=
  rlv_ind (fun ns o n2 h => by
      rw [rlv] at h
      obtain ⟨rfl, _⟩ := Prod.mk.inj (Option.some.inj h)
      rfl)
    (fun p q r ns h1 h2 ih o n2 h => by
      rw [rlv_b h1 h2] at h
      obtain ⟨⟨a, b⟩, hab, e⟩ := Option.map_eq_some_iff.1 h
      obtain ⟨rfl, rfl⟩ := Prod.mk.inj e
      rw [List.map_cons, List.map_cons, List.map_cons, ups_b' h1 h2, ih a b hab])
    (fun p r hc o n2 h => by rw [rlv_n hc] at h; cases h)
    (fun p r s t hc ih o n2 h => by
      rw [rlv_s hc] at h
      obtain ⟨⟨a, b⟩, hab, e⟩ := Option.map_eq_some_iff.1 h
      obtain ⟨rfl, rfl⟩ := Prod.mk.inj e
      rw [List.map_cons, List.map_cons, ups_s hc, ih a b hab])
/-- All that a level makes are sums. -/
theorem rlv_32 : ∀ (L : List Kn) (ns : Hs) (o : List Kn) (n2 : Hs), rlv L ns = some (o, n2) → (∀ a ∈ o, H32 a.2) ∧ (∀ a ∈ n2, a ∈ ns) :=
  rlv_ind (fun ns o n2 h => by
      rw [rlv] at h
      obtain ⟨rfl, rfl⟩ := Prod.mk.inj (Option.some.inj h)
      exact ⟨by simp, fun a ha => ha⟩)
    (fun p q r ns h1 h2 ih o n2 h => by
      rw [rlv_b h1 h2] at h
      obtain ⟨⟨a, b⟩, hab, e⟩ := Option.map_eq_some_iff.1 h
      obtain ⟨rfl, rfl⟩ := Prod.mk.inj e
      refine ⟨fun x hx => ?_, (ih a b hab).2⟩
      rcases List.mem_cons.1 hx with rfl | hx
      · exact dNode_len _ _
      · exact (ih a b hab).1 x hx)
    (fun p r hc o n2 h => by rw [rlv_n hc] at h; cases h)
    (fun p r s t hc ih o n2 h => by
      rw [rlv_s hc] at h
      obtain ⟨⟨a, b⟩, hab, e⟩ := Option.map_eq_some_iff.1 h
      obtain ⟨rfl, rfl⟩ := Prod.mk.inj e
      refine ⟨fun x hx => ?_, fun x hx => List.mem_cons_of_mem _ ((ih a b hab).2 x hx)⟩
      rcases List.mem_cons.1 hx with rfl | hx
      · exact cmb32 _ _ _
      · exact (ih a b hab).1 x hx)
/-- How far a level of the document's Root has come: sk, the place k is done with the one before it. -/
structure RlI (L : List Kn) (n0 : Hs) (k : Nat) (up : List Kn) (ns : Hs) (sk : Bool) : Prop where
  eq : rlv L n0 = (rlv (L.drop (k + sk.toNat)) ns).map fun o => (up ++ o.1, o.2)
  mem : ∀ v, v ∈ up.map (·.1) ↔ ∃ j, j < k ∧ gv (L.map (·.1)) j / 2 = v
  sk1 : sk = true → 0 < k ∧ k < L.length ∧ gv (L.map (·.1)) (k - 1) % 2 = 0 ∧ gv (L.map (·.1)) k = gv (L.map (·.1)) (k - 1) + 1
  sk0 : sk = false → 0 < k → k < L.length → gv (L.map (·.1)) (k - 1) / 2 ≠ gv (L.map (·.1)) k / 2
theorem RlI.start (L : List Kn) (n0 : Hs) : RlI L n0 0 [] n0 false := ⟨by
    rw [show L.drop (0 + Bool.toNat false) = L from rfl]
    cases rlv L n0 <;> rfl, fun v => by simp, (fun h => by cases h), fun _ h => by omega⟩
theorem kn_get {L : List Kn} {k : Nat} {x : Kn} (h : L[k]? = some x) : gv (L.map (·.1)) k = x.1 := by
  unfold gv
  rw [List.getD_eq_getElem?_getD, List.getElem?_map, h]
  rfl
theorem RlI.found {L up : List Kn} {n0 ns : Hs} {k : Nat} {sk : Bool} (h : RlI L n0 k up ns sk) (hs : SI (L.map (·.1))) {x : Kn} (hx : L[k]? = some x) (hf : x.1 / 2 ∈ up.map (·.1)) : RlI L n0 (k + 1) up ns false := by
  have hk := (List.getElem?_eq_some_iff.1 hx).1
  have hg := kn_get hx
  obtain ⟨j, hj, e⟩ := (h.mem _).1 hf
  have hlen : (L.map (·.1)).length = L.length := by simp
  have hprev : gv (L.map (·.1)) (k - 1) / 2 = gv (L.map (·.1)) k / 2 := by
    have h2 := hs (k - 1) k (by omega) (by omega)
    by_cases c : j = k - 1
    · subst c; omega
    · have h1 := hs j (k - 1) (by omega) (by omega)
      omega
  cases sk with
  | false => exact absurd hprev (h.sk0 rfl (by omega) hk)
  | true =>
    obtain ⟨h1, h2, h3, h4⟩ := h.sk1 rfl
    refine ⟨h.eq, fun v => ?_, (fun h => by cases h), fun _ _ hk2 => ?_⟩
    · rw [h.mem v]
      constructor
      · rintro ⟨i, hi, rfl⟩
        exact ⟨i, by omega, rfl⟩
      · rintro ⟨i, hi, rfl⟩
        by_cases c : i = k
        · rw [c]; exact ⟨k - 1, by omega, hprev⟩
        · exact ⟨i, by omega, rfl⟩
    · rw [Nat.add_sub_cancel]
      have h5 := hs k (k + 1) (by omega) (by omega)
      omega
theorem RlI.sk_no {L up : List Kn} {n0 ns : Hs} {k : Nat} {sk : Bool} (h : RlI L n0 k up ns sk) {x : Kn} (hx : L[k]? = some x) (hf : x.1 / 2 ∉ up.map (·.1)) : sk = false := by
  cases sk with
  | false => rfl
  | true =>
    obtain ⟨h1, h2, h3, h4⟩ := h.sk1 rfl
    have hg := kn_get hx
    exact absurd ((h.mem _).2 ⟨k - 1, by omega, by omega⟩) hf
theorem RlI.mem_snoc {L up : List Kn} {n0 ns : Hs} {k : Nat} {sk : Bool} (h : RlI L n0 k up ns sk) {x : Kn} (hx : L[k]? = some x) (y : List UInt8) : ∀ v, v ∈ (up ++ [(x.1 / 2, y)]).map (·.1) ↔ ∃ j, j < k + 1 ∧ gv (L.map (·.1)) j / 2 = v := fun v => by
  rw [List.map_append, List.mem_append, h.mem v]
  have hg := kn_get hx
  simp only [List.map_cons, List.map_nil, List.mem_singleton]
  constructor
  · rintro (⟨i, hi, rfl⟩ | rfl)
    · exact ⟨i, by omega, rfl⟩
    · exact ⟨k, by omega, by rw [hg]⟩
  · rintro ⟨i, hi, rfl⟩
    by_cases c : i = k
    · rw [c, hg]; exact .inr rfl
    · exact .inl ⟨i, by omega, rfl⟩
/-- The place's sibling is known. -/
theorem RlI.pair {L up : List Kn} {n0 ns : Hs} {k m : Nat} {sk : Bool} (h : RlI L n0 k up ns sk) (hs : SI (L.map (·.1))) {x y : Kn} (hx : L[k]? = some x) (hf : x.1 / 2 ∉ up.map (·.1)) (hy : L[m]? = some y) (he : y.1 = bes x.1) :
    x.1 % 2 = 0 ∧ RlI L n0 (k + 1) (up ++ [(x.1 / 2, dNode x.2 y.2)]) ns true := by
  have h0 := h.sk_no hx hf
  subst h0
  have hk := (List.getElem?_eq_some_iff.1 hx).1
  have hm := (List.getElem?_eq_some_iff.1 hy).1
  have hgx := kn_get hx
  have hgy := kn_get hy
  have hlen : (L.map (·.1)).length = L.length := by simp
  have hmem : bes (gv (L.map (·.1)) k) ∈ L.map (·.1) := by rw [hgx, ← he, ← hgy]; exact gv_mem (by omega)
  rcases (bes_near hs (by omega)).1 hmem with ⟨h1, h2⟩ | ⟨h1, h2⟩
  · have h3 := hs k (k + 1) (by omega) h1
    have he2 : x.1 % 2 = 0 := by
      rw [hgx] at h2 h3
      rw [h2] at h3
      unfold bes at h3
      split at h3 <;> omega
    have hb : bes x.1 = x.1 + 1 := if_pos he2
    have hmk : m = k + 1 := by
      rcases Nat.lt_trichotomy m (k + 1) with c | c | c
      · by_cases c2 : m = k
        · subst c2; omega
        · have h5 := hs m k (by omega) (by omega)
          omega
      · exact c
      · have h5 := hs (k + 1) m c (by omega)
        rw [hgx] at h2
        omega
    subst hmk
    refine ⟨he2, ?_, h.mem_snoc hx _, fun _ => ⟨by omega, hm, by rw [Nat.add_sub_cancel, hgx]; exact he2, by rw [Nat.add_sub_cancel, hgx, hgy, he, hb]⟩, fun h => by cases h⟩
    rw [h.eq]
    have d1 : L.drop (k + Bool.toNat false) = x :: y :: L.drop (k + 1 + 1) := by
      show L.drop k = _
      rw [List.drop_eq_getElem_cons hk, List.drop_eq_getElem_cons hm]
      have q1 : L[k] = x := (List.getElem?_eq_some_iff.1 hx).2
      have q2 : L[k + 1] = y := (List.getElem?_eq_some_iff.1 hy).2
      rw [q1, q2]
    rw [d1, rlv_b he2 (by rw [he, hb])]
    show _ = (rlv (L.drop (k + 1 + 1)) ns).map _
    cases rlv (L.drop (k + 1 + 1)) ns with
    | none => rfl
    | some o => simp
  · exfalso
    have h3 := h.sk0 rfl h1 hk
    apply h3
    rw [h2, bes_half]
theorem RlI.alone {L up : List Kn} {n0 ns : Hs} {k : Nat} {sk : Bool} (h : RlI L n0 k up ns sk) (hs : SI (L.map (·.1))) {x : Kn} (hx : L[k]? = some x) (hn : bes x.1 ∉ L.map (·.1)) : ¬ (x.1 % 2 = 0 ∧ ((L.drop (k + 1)).map (·.1))[0]? = some (x.1 + 1)) := by
  rintro ⟨h1, h2⟩
  apply hn
  rw [show bes x.1 = x.1 + 1 from if_pos h1]
  have := List.mem_of_getElem? h2
  rw [List.map_drop] at this
  exact List.mem_of_mem_drop this
theorem kn_drop {L : List Kn} {k : Nat} {x : Kn} (hx : L[k]? = some x) : L.drop (k + Bool.toNat false) = x :: L.drop (k + 1) := by
  have hk := (List.getElem?_eq_some_iff.1 hx).1
  show L.drop k = _
  rw [List.drop_eq_getElem_cons hk]
  have q1 : L[k] = x := (List.getElem?_eq_some_iff.1 hx).2
  rw [q1]
/-- A node is wanted, and there is none. -/
theorem RlI.short {L up : List Kn} {n0 : Hs} {k : Nat} {sk : Bool} (h : RlI L n0 k up [] sk) (hs : SI (L.map (·.1))) {x : Kn} (hx : L[k]? = some x) (hf : x.1 / 2 ∉ up.map (·.1)) (hn : bes x.1 ∉ L.map (·.1)) : rlv L n0 = none := by
  have h0 := h.sk_no hx hf
  subst h0
  rw [h.eq, kn_drop hx, rlv_n (h.alone hs hx hn)]
  rfl
theorem RlI.lone {L up : List Kn} {n0 t : Hs} {s : List UInt8} {k : Nat} {sk : Bool} (h : RlI L n0 k up (s :: t) sk) (hs : SI (L.map (·.1))) {x : Kn} (hx : L[k]? = some x) (hf : x.1 / 2 ∉ up.map (·.1)) (hn : bes x.1 ∉ L.map (·.1)) :
    RlI L n0 (k + 1) (up ++ [(x.1 / 2, cmb x.1 x.2 s)]) t false := by
  have h0 := h.sk_no hx hf
  subst h0
  have hgx := kn_get hx
  have hlen : (L.map (·.1)).length = L.length := by simp
  refine ⟨?_, h.mem_snoc hx _, (fun h => by cases h), fun _ _ hk2 hh => ?_⟩
  · rw [h.eq, kn_drop hx, rlv_s (h.alone hs hx hn)]
    show _ = (rlv (L.drop (k + 1)) t).map _
    cases rlv (L.drop (k + 1)) t with
    | none => rfl
    | some o => simp
  · rw [Nat.add_sub_cancel] at hh
    apply hn
    have h1 := hs k (k + 1) (by omega) (by omega)
    have h2 : gv (L.map (·.1)) (k + 1) = bes x.1 := by
      rw [hgx] at h1 hh
      unfold bes
      split <;> omega
    rw [← h2]
    exact gv_mem (by omega)
theorem RlI.fin {L up : List Kn} {n0 ns : Hs} {sk : Bool} (h : RlI L n0 L.length up ns sk) : rlv L n0 = some (up, ns) := by
  cases sk with
  | true => obtain ⟨_, h2, _⟩ := h.sk1 rfl; omega
  | false =>
    rw [h.eq, show L.drop (L.length + Bool.toNat false) = [] by simp, rlv]
    simp

end Go.Proofs.YtchmjpdkonfifaaDoor

set_option linter.unusedVariables false
set_option linter.unusedSimpArgs false
namespace Go.Proofs.YtchmjpdkonfifaaDoor
open Go.Sx Go.RowKit
attribute [local irreducible] Ac Ex WL WC WX WP Gives sha

abbrev z32 : List UInt8 := List.replicate 32 0
/-- What the two functions that Root hands to climb share. -/
structure KS where
  kn : Hs
  ns : Hs
  sd : List UInt8
  pa : Nat
  pi : Nat
  lf : Nat
def flR (t : KS) (_ _ : Nat) : Option KS := match t.ns with
  | [] => none
  | s :: r => some { t with sd := s, ns := r }
def fpY (t : KS) (i : Nat) (both : Bool) : List UInt8 := if both then dNode (t.kn.getD t.pi z32) (t.kn.getD (t.pi + 1) z32) else cmb i (t.kn.getD t.pi z32) t.sd
def fpI (t : KS) (both : Bool) : Nat := if both then t.pi + 2 else t.pi + 1
def fpR (t : KS) (i : Nat) (both : Bool) : KS := if fpI t both = t.lf then { t with kn := t.kn.set t.pa (fpY t i both), lf := t.pa + 1, pa := 0, pi := 0 } else { t with kn := t.kn.set t.pa (fpY t i both), pa := t.pa + 1, pi := fpI t both }
/-- u sums of the level above are made, m of this level are left. -/
structure KI (N : Nat) (t : KS) (u m : Nat) : Prop where
  len : t.kn.length = N
  kn32 : ∀ a ∈ t.kn, H32 a
  ns32 : ∀ a ∈ t.ns, H32 a
  sd32 : H32 t.sd
  go : 0 < m → t.pa = u ∧ t.pi + m = t.lf ∧ u ≤ t.pi ∧ t.lf ≤ N
  fin : m = 0 → t.pa = 0 ∧ t.pi = 0 ∧ t.lf = u ∧ u ≤ N
theorem set32 {l : Hs} {k : Nat} {a : List UInt8} (h : ∀ b ∈ l, H32 b) (ha : H32 a) : ∀ b ∈ l.set k a, H32 b := fun b hb => by
  rcases List.mem_or_eq_of_mem_set hb with hb | rfl
  · exact h b hb
  · exact ha
theorem fpY32 (t : KS) (i : Nat) (both : Bool) : H32 (fpY t i both) := by
  unfold fpY
  split
  · exact dNode_len _ _
  · exact cmb32 _ _ _
theorem KI.lone {N u m : Nat} {t t2 : KS} {l i : Nat} (h : KI N t u m) (e : flR t l i = some t2) : KI N t2 u m := by
  unfold flR at e
  split at e
  · cases e
  · rename_i s r hs
    obtain rfl := Option.some.inj e
    exact ⟨h.len, h.kn32, fun a ha => h.ns32 a (by rw [hs]; simp [ha]), h.ns32 s (by rw [hs]; simp), h.go, h.fin⟩
theorem KI.pair {N u m i : Nat} {t : KS} {both : Bool} (h : KI N t u m) (hm : (if both then 2 else 1) ≤ m) : KI N (fpR t i both) (u + 1) (m - (if both then 2 else 1)) := by
  have h0 : 0 < m := by cases both <;> simp at hm <;> omega
  obtain ⟨h1, h2, h3, h4⟩ := h.go h0
  have hy := fpY32 t i both
  have hset := set32 (k := t.pa) h.kn32 hy
  have hin : fpI t both = t.pi + (if both then 2 else 1) := by unfold fpI; cases both <;> rfl
  have hb : 1 ≤ (if both then 2 else 1) := by cases both <;> decide
  generalize (if both then 2 else 1) = q at *
  unfold fpR
  by_cases c : fpI t both = t.lf
  · rw [if_pos c]
    exact ⟨by simpa using h.len, hset, h.ns32, h.sd32, fun h5 => by dsimp only; omega, fun h5 => ⟨rfl, rfl, by dsimp only; omega, by omega⟩⟩
  · rw [if_neg c]
    exact ⟨by simpa using h.len, hset, h.ns32, h.sd32, fun h5 => ⟨by dsimp only; omega, by dsimp only; omega, by dsimp only; omega, h4⟩, fun h5 => by omega⟩
theorem KI.next {N u : Nat} {t : KS} (h : KI N t u 0) : KI N t 0 u := by
  obtain ⟨h1, h2, h3, h4⟩ := h.fin rfl
  exact ⟨h.len, h.kn32, h.ns32, h.sd32, fun h5 => ⟨h1, by omega, by omega, by omega⟩, fun h5 => ⟨h1, h2, by omega, by omega⟩⟩
/-- What is made so far, and what is left of the level. -/
structure St2 (t : KS) (dn xs : Hs) : Prop where
  tk : t.kn.take dn.length = dn
  rd : xs ≠ [] → (t.kn.drop t.pi).take xs.length = xs ∧ t.pa = dn.length ∧ t.pi + xs.length = t.lf ∧ dn.length ≤ t.pi ∧ t.lf ≤ t.kn.length
  fin : xs = [] → t.pa = 0 ∧ t.pi = 0 ∧ t.lf = dn.length ∧ dn.length ≤ t.kn.length
theorem St2.hd {t : KS} {dn xs : Hs} {x : List UInt8} (h : St2 t dn (x :: xs)) : t.kn.getD t.pi z32 = x := by
  obtain ⟨h1, _⟩ := h.rd (by simp)
  have h2 : ((t.kn.drop t.pi).take (x :: xs).length)[0]? = some x := by rw [h1]; rfl
  rw [List.getElem?_take_of_lt (by simp), List.getElem?_drop, Nat.add_zero] at h2
  rw [List.getD_eq_getElem?_getD, h2]
  rfl
theorem St2.hd2 {t : KS} {dn xs : Hs} {x y : List UInt8} (h : St2 t dn (x :: y :: xs)) : t.kn.getD (t.pi + 1) z32 = y := by
  obtain ⟨h1, _⟩ := h.rd (by simp)
  have h2 : ((t.kn.drop t.pi).take (x :: y :: xs).length)[1]? = some y := by rw [h1]; rfl
  rw [List.getElem?_take_of_lt (by simp), List.getElem?_drop] at h2
  rw [List.getD_eq_getElem?_getD, h2]
  rfl
theorem St2.step {t : KS} {dn xs r : Hs} {i q : Nat} {both : Bool} (h : St2 t dn (xs ++ r)) (hq : xs.length = q) (h1 : 1 ≤ q) (hb : fpI t both = t.pi + q) : St2 (fpR t i both) (dn ++ [fpY t i both]) r := by
  have hne : xs ++ r ≠ [] := by intro e; rw [List.append_eq_nil_iff] at e; rw [e.1] at hq; simp at hq; omega
  obtain ⟨g1, g2, g3, g4, g5⟩ := h.rd hne
  rw [List.length_append] at g3 g1
  have hmk : (t.kn.set t.pa (fpY t i both)).take (dn ++ [fpY t i both]).length = dn ++ [fpY t i both] := by
    rw [List.length_append, List.length_singleton, g2, List.take_add_one, List.take_set, List.set_eq_of_length_le (by rw [List.length_take]; omega), h.tk, List.getElem?_set_self (by omega)]
    rfl
  have hrd : ((t.kn.set t.pa (fpY t i both)).drop (t.pi + q)).take r.length = r := by
    rw [List.drop_set_of_lt (by omega)]
    have e : (t.kn.drop t.pi).take (xs.length + r.length) = xs ++ r := g1
    have e2 := congrArg (List.drop q) e
    rw [List.drop_take, List.drop_drop, ← hq, List.drop_left, show xs.length + r.length - xs.length = r.length by omega] at e2
    rw [← hq]; exact e2
  unfold fpR
  by_cases c : fpI t both = t.lf
  · have hr : r = [] := by
      cases r with
      | nil => rfl
      | cons a r => simp at g3; omega
    rw [if_pos c]
    exact ⟨hmk, fun h => absurd hr h, fun _ => ⟨rfl, rfl, by simp [g2], by simp; omega⟩⟩
  · rw [if_neg c]
    refine ⟨hmk, fun _ => ⟨by dsimp only; rw [hb]; exact hrd, by simp [g2], by dsimp only; omega, by simp; omega, by simpa using g5⟩, fun hr => ?_⟩
    subst hr
    simp at g3
    omega
theorem zip_fst : ∀ (zs : List Nat) (xs : Hs), xs.length = zs.length → (zs.zip xs).map (·.1) = zs
  | [], _, _ => rfl
  | z :: zs, [], h => by simp at h
  | z :: zs, x :: xs, h => by rw [List.zip_cons_cons, List.map_cons, zip_fst zs xs (by simpa using h)]
/-- One level of climb makes what the document's level makes. -/
theorem lvl_rlv (l : Nat) : ∀ (L : List Kn) (ns : Hs) (t : KS) (dn : Hs), t.ns = ns → St2 t dn (L.map (·.2)) →
    match rlv L ns with
    | none => Go.Sx.lvl flR fpR l (L.map (·.1)) t = none
    | some (o, n2) => ∃ t', Go.Sx.lvl flR fpR l (L.map (·.1)) t = some t' ∧ t'.ns = n2 ∧ St2 t' (dn ++ o.map (·.2)) [] :=
  rlv_ind (fun ns t dn hn h => by
      rw [rlv]
      exact ⟨t, rfl, hn, by simpa using h⟩)
    (fun p q r ns h1 h2 ih t dn hn h => by
      rw [rlv_b h1 h2]
      rw [List.map_cons, List.map_cons] at h ⊢
      have hy : fpY t p.1 true = dNode p.2 q.2 := by rw [fpY, if_pos rfl, h.hd, h.hd2]
      have hst := St2.step (xs := [p.2, q.2]) (q := 2) (i := p.1) (both := true) h rfl (by decide) rfl
      rw [hy] at hst
      have hn2 : (fpR t p.1 true).ns = ns := by unfold fpR; split <;> exact hn
      have hl : ∀ zs, Go.Sx.lvl flR fpR l (p.1 :: q.1 :: zs) t = Go.Sx.lvl flR fpR l zs (fpR t p.1 true) := fun zs => by rw [h2]; exact lvl_b flR fpR h1
      rw [hl]
      have hi := ih (fpR t p.1 true) _ hn2 hst
      cases hr : rlv r ns with
      | none => rw [hr] at hi; exact hi
      | some o =>
        rw [hr] at hi
        obtain ⟨t', e1, e2, e3⟩ := hi
        exact ⟨t', e1, e2, by simpa using e3⟩)
    (fun p r hc t dn hn h => by
      rw [rlv_n hc]
      rw [List.map_cons]
      show Go.Sx.lvl flR fpR l (p.1 :: r.map (·.1)) t = none
      rw [lvl_s flR fpR hc, show flR t l (p.1 ^^^ 1) = none by unfold flR; rw [hn]]
      rfl)
    (fun p r s u hc ih t dn hn h => by
      rw [rlv_s hc]
      rw [List.map_cons] at h ⊢
      have hf : flR t l (p.1 ^^^ 1) = some { t with sd := s, ns := u } := by unfold flR; rw [hn]
      have h' : St2 { t with sd := s, ns := u } dn (p.2 :: r.map (·.2)) := ⟨h.tk, h.rd, h.fin⟩
      have hy : fpY { t with sd := s, ns := u } p.1 false = cmb p.1 p.2 s := by rw [fpY, if_neg (by decide), h'.hd]
      have hst := St2.step (xs := [p.2]) (q := 1) (i := p.1) (both := false) h' rfl (by decide) rfl
      rw [hy] at hst
      have hn2 : (fpR { t with sd := s, ns := u } p.1 false).ns = u := by unfold fpR; split <;> rfl
      rw [lvl_s flR fpR hc, hf]
      simp only [Option.bind_some]
      have hi := ih (fpR { t with sd := s, ns := u } p.1 false) _ hn2 hst
      cases hr : rlv r u with
      | none => rw [hr] at hi; exact hi
      | some o =>
        rw [hr] at hi
        obtain ⟨t', e1, e2, e3⟩ := hi
        exact ⟨t', e1, e2, by simpa using e3⟩)
theorem St2.next {t : KS} {dn : Hs} (h : St2 t dn []) : St2 t [] dn := by
  obtain ⟨h1, h2, h3, h4⟩ := h.fin rfl
  exact ⟨rfl, fun hne => ⟨by rw [h2, List.drop_zero]; exact h.tk, h1, by omega, by simp, by omega⟩, fun e => by subst e; exact ⟨h1, h2, h3, h4⟩⟩
theorem climb_rtop : ∀ (d l : Nat) (L : List Kn) (t : KS), t.pi = 0 → St2 t [] (L.map (·.2)) →
    match rtop d L t.ns with
    | none => climbF flR fpR d l (L.map (·.1)) t = none
    | some (o, n2) => ∃ t', climbF flR fpR d l (L.map (·.1)) t = some t' ∧ t'.ns = n2 ∧ t'.pi = 0 ∧ St2 t' [] (o.map (·.2))
  | 0, l, L, t, h0, h => ⟨t, rfl, rfl, h0, h⟩
  | d + 1, l, L, t, h0, h => by
    rw [rtop, climbF]
    have h1 := lvl_rlv l L t.ns t [] rfl h
    have hp := rlv_places L t.ns
    cases hr : rlv L t.ns with
    | none => rw [hr] at h1; rw [h1]; rfl
    | some o =>
      rw [hr] at h1
      obtain ⟨t', e1, e2, e3⟩ := h1
      have hp2 := hp o.1 o.2 hr
      rw [e1, ← hp2]
      have h2 := climb_rtop d (l + 1) o.1 t' (e3.fin rfl).2.1 (by rw [List.nil_append] at e3; exact e3.next)
      rw [e2] at h2
      exact h2
theorem rtop_ne : ∀ (d : Nat) (L : List Kn) (ns : Hs) (o : List Kn) (n2 : Hs), rtop d L ns = some (o, n2) → L ≠ [] → o ≠ []
  | 0, L, ns, o, n2, h, hl => by
    rw [rtop] at h
    obtain ⟨rfl, _⟩ := Prod.mk.inj (Option.some.inj h)
    exact hl
  | d + 1, L, ns, o, n2, h, hl => by
    rw [rtop] at h
    obtain ⟨q, h1, h2⟩ := Option.bind_eq_some_iff.1 h
    refine rtop_ne d q.1 q.2 o n2 h2 fun e => ?_
    have h3 := rlv_places L ns q.1 q.2 h1
    rw [e] at h3
    have h4 := (ups_len (L.map (·.1))).2 (by rw [List.length_map]; exact List.length_pos_iff.2 hl)
    rw [← h3] at h4
    simp at h4

end Go.Proofs.YtchmjpdkonfifaaDoor

set_option linter.unusedVariables false
set_option linter.unusedSimpArgs false
namespace Go.Proofs.YtchmjpdkonfifaaDoor
open Go.Sx Go.RowKit
attribute [local irreducible] Ac Ex WL WC WX WP Gives sha

/-- The document's sum at the top, or what is wrong first. -/
def rootF (d : Int) (ps : List Nat) (ns ls : Hs) : List UInt8 × Int :=
  if d < 0 ∨ 32 < d then (z32, 1) else if ps.length = 0 then (z32, 3) else if ¬ (ps.Pairwise (· < ·) ∧ ls.length = ps.length) then (z32, 6) else if (ps.any fun x => decide (2 ^ d.toNat ≤ x)) = true then (z32, 10) else match rtop d.toNat (ps.zip ls) ns with
  | none => (z32, 4)
  | some (o, n2) => if n2 = [] then ((o.map (·.2)).getD 0 z32, 0) else (z32, 5)
theorem rlv_tree (ls : Hs) (k : Nat) : ∀ (zs : List Nat) (rest : Hs), rlv (zs.map fun i => (i, nd dNode e0 ls k i)) (sibL (fun l i => nd dNode e0 ls l i) k zs ++ rest) = some ((ups zs).map fun i => (i, nd dNode e0 ls (k + 1) i), rest)
  | [], rest => by simp [sibL, ups, rlv]
  | [i], rest => by
    show some ([(i / 2, cmb i (nd dNode e0 ls k i) (nd dNode e0 ls k (i ^^^ 1)))], rest) = some ([(i / 2, nd dNode e0 ls (k + 1) (i / 2))], rest)
    rw [cmb_nd]
  | i :: j :: r, rest => by
    by_cases c : i % 2 = 0 ∧ j = i + 1
    · rw [show sibL (fun l i => nd dNode e0 ls l i) k (i :: j :: r) = sibL (fun l i => nd dNode e0 ls l i) k r by rw [sibL, if_pos c], ups_b' c.1 c.2]
      rw [List.map_cons, List.map_cons, rlv_b c.1 c.2, rlv_tree ls k r rest]
      have e1 : dNode (nd dNode e0 ls k i) (nd dNode e0 ls k j) = nd dNode e0 ls (k + 1) (i / 2) := by
        show _ = dNode (nd dNode e0 ls k (2 * (i / 2))) (nd dNode e0 ls k (2 * (i / 2) + 1))
        rw [show 2 * (i / 2) = i by omega, c.2]
      simp [e1]
    · have hc : ¬ (i % 2 = 0 ∧ (j :: r)[0]? = some (i + 1)) := fun e => c ⟨e.1, by simpa using e.2⟩
      rw [show sibL (fun l i => nd dNode e0 ls l i) k (i :: j :: r) = nd dNode e0 ls k (i ^^^ 1) :: sibL (fun l i => nd dNode e0 ls l i) k (j :: r) by rw [sibL, if_neg c], ups_s hc]
      have hc2 : ¬ (i % 2 = 0 ∧ (((j :: r).map fun i => (i, nd dNode e0 ls k i)).map (·.1))[0]? = some (i + 1)) := fun e => hc ⟨e.1, by simpa using e.2⟩
      rw [List.map_cons, List.cons_append, rlv_s hc2, rlv_tree ls k (j :: r) rest]
      simp only [cmb_nd, Option.map_some, List.map_cons]
where
  cmb_nd {ls : Hs} {k i : Nat} : cmb i (nd dNode e0 ls k i) (nd dNode e0 ls k (i ^^^ 1)) = nd dNode e0 ls (k + 1) (i / 2) := by
    show _ = dNode (nd dNode e0 ls k (2 * (i / 2))) (nd dNode e0 ls k (2 * (i / 2) + 1))
    rw [← bes_xor]
    unfold cmb bes
    by_cases c : i % 2 = 0
    · rw [if_pos c, if_pos c, show 2 * (i / 2) = i by omega]
    · rw [if_neg c, if_neg c, show 2 * (i / 2) = i - 1 by omega, show i - 1 + 1 = i by omega]
theorem rtop_tree (ls : Hs) : ∀ (d l : Nat) (zs : List Nat) (rest : Hs), zs.Pairwise (· < ·) → zs ≠ [] → (∀ z ∈ zs, z < 2 ^ d) →
    rtop d (zs.map fun i => (i, nd dNode e0 ls l i)) (sibs (fun l i => nd dNode e0 ls l i) d l zs ++ rest) = some ([(0, nd dNode e0 ls (l + d) 0)], rest)
  | 0, l, zs, rest, h, hne, hz => by
    have e : zs = [0] := by
      cases zs with
      | nil => exact absurd rfl hne
      | cons a r =>
        have ha := hz a (by simp)
        have ha0 : a = 0 := by simpa using ha
        cases r with
        | nil => rw [ha0]
        | cons b r =>
          have hb := hz b (by simp)
          have := (List.pairwise_cons.1 h).1 b (by simp)
          simp at hb
          omega
    subst e
    rfl
  | d + 1, l, zs, rest, h, hne, hz => by
    rw [rtop, sibs, List.append_assoc, rlv_tree ls l zs]
    show rtop d ((ups zs).map fun i => (i, nd dNode e0 ls (l + 1) i)) _ = _
    rw [rtop_tree ls d (l + 1) (ups zs) rest (ups_pw h) (fun e => by
      have := (ups_len zs).2 (List.length_pos_iff.2 hne)
      rw [e] at this
      simp at this) (fun v hv => by
      obtain ⟨z, hz2, rfl⟩ := (ups_mem zs v).1 hv
      have := hz z hz2
      rw [Nat.pow_succ] at this
      omega)]
    rw [show l + 1 + d = l + (d + 1) by omega]
theorem sibs_one (f : Nat → Nat → List UInt8) : ∀ (d l i : Nat), sibs f d l [i] = (List.range d).map fun k => f (l + k) ((i / 2 ^ k) ^^^ 1)
  | 0, _, _ => rfl
  | d + 1, l, i => by
    rw [sibs, show ups [i] = [i / 2] from rfl, sibs_one f d (l + 1) (i / 2), List.range_succ_eq_map, List.map_cons, List.map_map]
    show f l (i ^^^ 1) :: _ = _
    congr 1
    · simp
    · refine List.map_congr_left fun k _ => ?_
      show f (l + 1 + k) ((i / 2 / 2 ^ k) ^^^ 1) = f (l + (k + 1)) ((i / 2 ^ (k + 1)) ^^^ 1)
      rw [show l + 1 + k = l + (k + 1) by omega, Nat.div_div_eq_div_mul, Nat.pow_succ, Nat.mul_comm (2 ^ k) 2]

end Go.Proofs.YtchmjpdkonfifaaDoor

set_option linter.unusedVariables false
set_option linter.unusedSimpArgs false
namespace Go.Proofs.YtchmjpdkonfifaaDoor
open Go.Sx Go.RowKit
attribute [local irreducible] Ac Ex WL WC WX WP Gives sha

/- sponsion/multi.climb#I -/
theorem mclimbI_ok {σ τ : Type} (Iv : τ → Nat → Nat → Prop) (fl : τ → Nat → Nat → Option τ) (fp : τ → Nat → Bool → τ) (Jr : σ → Res) (ab : σ → τ) (w : World) (A : Option Addr) (c d : Nat) (zs : List Nat) (lv pv : Value) (s0 : σ) (hJ : (Jr s0).sat w) (hr : Rd w A (u64V zs)) (hA : ∀ b, A = some b → b.block ∉ (Jr s0).fp) (hd : d ≤ 32) (h1 : 1 ≤ zs.length) (hz : zs.length ≤ 50) (hzb : ∀ k, gv zs k < 18446744073709551616)
    (sz : τ → Nat) (hz0 : sz (ab s0) = 0) (hzl : ∀ t l i t2, fl t l i = some t2 → sz t2 ≤ sz t + 1) (hzp : ∀ t i b, sz (fp t i b) ≤ sz t)
    (hI0 : Iv (ab s0) 0 zs.length) (hIl : ∀ t l i t2 u m, fl t l i = some t2 → Iv t u m → Iv t2 u m) (hIp : ∀ t i b u m, Iv t u m → (if b = true then 2 else 1) ≤ m → Iv (fp t i b) (u + 1) (m - (if b = true then 2 else 1))) (hIe : ∀ t u, Iv t u 0 → Iv t 0 u)
    (hl : ∀ s W (l i : Nat), (∃ u m, Iv (ab s) u m) → sz (ab s) ≤ 1650 → l ≤ 32 → i < 18446744073709551616 → Keep (fun b => b ∈ (Jr s0).fp) w W → (Jr s).sat W → CallV Tryd.prog lv W [.int .i64 (l : Int), .int .u64 (i : Int)] fun u W' => ∃ s' b, u = .bool b ∧ Turn W W' (Jr s) (Jr s') ∧ fl (ab s) l i = (if b then some (ab s') else none))
    (hp : ∀ s W (i : Nat) both, i < 18446744073709551616 → (∃ u m, Iv (ab s) u m ∧ (if both = true then 2 else 1) ≤ m) → Keep (fun b => b ∈ (Jr s0).fp) w W → (Jr s).sat W → CallV Tryd.prog pv W [.int .u64 (i : Int), .bool both] fun u W' => ∃ s', Turn W W' (Jr s) (Jr s') ∧ ab s' = fp (ab s) i both) :
    Gives Tryd.prog 63 #[.int .i64 (d : Int), .slice A zs.length c, lv, pv] w fun u w1 => ∃ s1 b, u = .bool b ∧ Turn w w1 (Jr s0) (Jr s1) ∧ climbF fl fp d 0 zs (ab s0) = (if b then some (ab s1) else none) ∧ (b = true → ∃ m, Iv (ab s1) 0 m) := by
  obtain ⟨FF, hFF⟩ : ∃ FF : Nat → Prop, FF = (fun b => b ∈ (Jr s0).fp) := ⟨_, rfl⟩
  have M0 : Mem w w FF [Jr s0] := by rw [hFF]; exact Mem.begin hJ
  refine Gives.enter (n := 68) Tryd.func63 rfl Tryd.ntmps63 rfl (env := [(0, .int .i64 (d : Int)), (1, .slice A zs.length c), (2, lv), (3, pv)]) rfl ?_
  obtain ⟨b1, o1, hA1, _⟩ := hr.plain (by simp; omega)
  subst hA1
  have hAF : ¬ FF b1 := by rw [hFF]; exact hA _ rfl
  refine qD ?_
  refine qB ?_
  refine qE ?_
  refine WC.seq ?_
  refine qD ?_
  refine qA ?_
  refine qA ?_
  refine qE ?_
  refine WC.block ?_
  refine WC.loop (σ := Nat × Bool × Nat × Nat × Nat × List Nat × σ) (fun s => [(1, .slice (some ⟨s.2.2.1, s.2.2.2.1, none⟩) (List.length s.2.2.2.2.2.1) s.2.2.2.2.1), (2, lv), (3, pv), (14, .int .i64 (d : Int)), (15, .int .i64 (s.1 : Int))]) (fun s wr => s.1 ≤ d ∧ 1 ≤ List.length s.2.2.2.2.2.1 ∧ List.length s.2.2.2.2.2.1 ≤ 50 ∧ (∀ k, gv s.2.2.2.2.2.1 k < 18446744073709551616) ∧ (s.2.1 = false → Rd w (some ⟨s.2.2.1, s.2.2.2.1, none⟩) (u64V s.2.2.2.2.2.1) ∧ ¬ FF s.2.2.1) ∧ sz (ab s.2.2.2.2.2.2) ≤ 50 * s.1 ∧ climbF fl fp d 0 zs (ab s0) = climbF fl fp (d - s.1) s.1 s.2.2.2.2.2.1 (ab s.2.2.2.2.2.2) ∧ Iv (ab s.2.2.2.2.2.2) 0 (List.length s.2.2.2.2.2.1) ∧ Mem w wr FF [optR s.2.1 (row (.slice (some ⟨s.2.2.1, s.2.2.2.1, none⟩) (List.length s.2.2.2.2.2.1) s.2.2.2.2.1) 23 1 (List.length s.2.2.2.2.2.1) (u64V s.2.2.2.2.2.1)), Jr s.2.2.2.2.2.2]) (fun s => d - s.1) (((0, false, b1, o1, c, zs, s0) : Nat × Bool × Nat × Nat × Nat × List Nat × σ)) ?_ (.cons rfl (.cons rfl (.cons rfl (.cons rfl (.cons rfl (.nil)))))) ?_
  · exact ⟨by dsimp only; omega, h1, hz, hzb, fun _ => ⟨hr, hAF⟩, by dsimp only; omega, rfl, hI0, (M0.free (r := emptyR) trivial rfl)⟩
  rintro ⟨l, own, b0, o0, c0, ps, sj⟩ w4 ⟨hld, hp1, hp2, hpb, hx, hsj, hcf, hiv0, M4⟩
  dsimp only at hld hp1 hp2 hpb hx hsj hcf hiv0 M4
  refine WC.sub (env' := [(1, .slice (some ⟨b0, o0, none⟩) (List.length ps) c0), (2, lv), (3, pv), (14, .int .i64 (d : Int)), (15, .int .i64 (l : Int))]) (.cons rfl (.cons rfl (.cons rfl (.cons rfl (.cons rfl (.nil)))))) ?_
  refine qD ?_
  refine WL.ex rfl rfl rfl (Ex.lss rfl rfl) ?_
  refine qE ?_
  refine WC.seq ?_
  refine WC.cond_dec rfl (fun hc16 => ?_) (fun hc16 => ?_)
  · skip
    refine WC.skip ?_
    refine WX.next ?_
    refine WC.seq ?_
    refine WC.block ?_
    refine qD ?_
    refine qA ?_
    refine qB ?_
    refine qE ?_
    refine qD ?_
    refine qB ?_
    refine qE ?_
    refine WC.seq ?_
    refine qD ?_
    refine qB ?_
    refine qE ?_
    refine WC.block ?_
    refine WC.loop (σ := Nat × Value × List Nat × σ) (fun s => [(1, .slice (some ⟨b0, o0, none⟩) (List.length ps) c0), (2, lv), (3, pv), (9, .int .i64 (l : Int)), (10, s.2.1), (11, .int .i64 (s.1 : Int)), (14, .int .i64 (d : Int)), (15, .int .i64 (l : Int))]) (fun s wr => s.1 ≤ List.length ps ∧ s.2.2.1.length ≤ s.1 ∧ (0 < s.1 → 0 < s.2.2.1.length) ∧ (∀ j, gv s.2.2.1 j < 18446744073709551616) ∧ sz (ab s.2.2.2) ≤ 50 * l + s.1 ∧ ups ps = s.2.2.1 ++ ups (ps.drop s.1) ∧ Go.Sx.lvl fl fp l ps (ab sj) = Go.Sx.lvl fl fp l (ps.drop s.1) (ab s.2.2.2) ∧ Iv (ab s.2.2.2) (List.length s.2.2.1) (List.length ps - s.1) ∧ Mem w wr FF [row s.2.1 23 1 (List.length s.2.2.1) (u64V s.2.2.1), optR own (row (.slice (some ⟨b0, o0, none⟩) (List.length ps) c0) 23 1 (List.length ps) (u64V ps)), Jr s.2.2.2]) (fun s => List.length ps - s.1) (((0, .slice none 0 0, [], sj) : Nat × Value × List Nat × σ)) ?_ (.cons rfl (.cons rfl (.cons rfl (.cons rfl (.cons rfl (.cons rfl (.cons rfl (.cons rfl (.nil))))))))) ?_
    · exact ⟨by dsimp only; omega, by simp, (fun h => by omega), (fun j => by simp [gv]), by dsimp only; omega, rfl, rfl, hiv0, (M4.free (r := row (.slice none 0 0) 23 1 0 []) (row_nil _ _ _) rfl)⟩
    rintro ⟨k, v, acc, s1⟩ w10 ⟨hk, hak, hak0, hab, hs1, hup, hlv, hiv, M10⟩
    dsimp only at hk hak hak0 hab hs1 hup hlv hiv M10
    refine WC.sub (env' := [(1, .slice (some ⟨b0, o0, none⟩) (List.length ps) c0), (2, lv), (3, pv), (9, .int .i64 (l : Int)), (10, v), (11, .int .i64 (k : Int)), (14, .int .i64 (d : Int)), (15, .int .i64 (l : Int))]) (.cons rfl (.cons rfl (.cons rfl (.cons rfl (.cons rfl (.cons rfl (.cons rfl (.cons rfl (.nil))))))))) ?_
    refine WC.seq ?_
    refine qD ?_
    refine qA ?_
    refine qA ?_
    refine WL.ex rfl rfl rfl (Ex.len Tryd.underlying67 rfl) ?_
    refine WL.ex rfl rfl rfl (Ex.lss rfl rfl) ?_
    refine qE ?_
    refine WC.cond_dec rfl (fun hc21 => ?_) (fun hc21 => ?_)
    · have hgk := hpb k
      refine WC.skip ?_
      refine WX.next ?_
      refine WC.seq ?_
      refine WC.block ?_
      refine qD ?_
      refine qA ?_
      refine qA ?_
      refine WL.ex rfl rfl rfl (Ex.ia Tryd.underlying67 sz23 rfl rfl ⟨by omega, by omega⟩) ?_
      refine WL.ex rfl rfl rfl (Ex.load ty23 rfl (u64_at (rdP M10 (i := 1) rfl hx) (k := k) (by omega) (by omega))) ?_
      refine qB ?_
      refine qE ?_
      refine qD ?_
      refine qA ?_
      refine WL.ex rfl rfl rfl (Ex.rem rfl rfl (by omega) (c := ((gv ps k % 2 : Nat) : Int)) (by rw [Int.tmod_eq_emod_of_nonneg (by omega)]; omega)) ?_
      refine WL.ex rfl rfl rfl (Ex.eqI rfl rfl) ?_
      refine qA ?_
      by_cases he : ((gv ps k % 2 : Nat) : Int) = 0
      · rw [decide_eq_true he]
        refine WL.yes rfl rfl rfl rfl ?_
        refine qA ?_
        refine WL.yes rfl rfl rfl rfl ?_
        refine WL.ex rfl rfl rfl (Ex.add rfl rfl (c := ((k + 1 : Nat) : Int)) (wrapN (by omega) (by omega))) ?_
        refine WL.yes rfl rfl rfl rfl ?_
        refine qA ?_
        refine WL.yes rfl rfl rfl rfl ?_
        refine WL.ex rfl rfl rfl (Ex.len Tryd.underlying67 rfl) ?_
        refine WL.yes rfl rfl rfl rfl ?_
        refine WL.ex rfl rfl rfl (Ex.lss rfl rfl) ?_
        refine WL.ex rfl rfl rfl (Ex.pickT rfl rfl) ?_
        refine qA ?_
        by_cases hk2 : ((k + 1 : Nat) : Int) < ((List.length ps : Nat) : Int)
        · rw [decide_eq_true hk2]
          refine WL.yes rfl rfl rfl rfl ?_
          refine qA ?_
          refine WL.yes rfl rfl rfl rfl ?_
          refine qA ?_
          refine WL.yes rfl rfl rfl rfl ?_
          refine WL.ex rfl rfl rfl (Ex.add rfl rfl (c := ((k + 1 : Nat) : Int)) (wrapN (by omega) (by omega))) ?_
          refine WL.yes rfl rfl rfl rfl ?_
          refine WL.ex rfl rfl rfl (Ex.ia Tryd.underlying67 sz23 rfl rfl ⟨by omega, by omega⟩) ?_
          refine WL.yes rfl rfl rfl rfl ?_
          refine WL.ex rfl rfl rfl (Ex.load ty23 rfl (u64_at (rdP M10 (i := 1) rfl hx) (k := k + 1) (by omega) (by omega))) ?_
          refine WL.yes rfl rfl rfl rfl ?_
          refine qA ?_
          refine WL.yes rfl rfl rfl rfl ?_
          refine WL.ex rfl rfl rfl (Ex.add rfl rfl (c := ((gv ps k + 1 : Nat) : Int)) (by rw [show (gv ps k : Int) + 1 = ((gv ps k + 1 : Nat) : Int) by omega]; exact u64w_lt _ (by omega))) ?_
          refine WL.yes rfl rfl rfl rfl ?_
          refine WL.ex rfl rfl rfl (Ex.eqI rfl rfl) ?_
          refine WL.ex rfl rfl rfl (Ex.pickT rfl rfl) ?_
          refine qB ?_
          refine qE ?_
          refine WC.cut (σ := Nat × Bool × σ) (fun s => [(1, .slice (some ⟨b0, o0, none⟩) (List.length ps) c0), (2, lv), (3, pv), (9, .int .i64 (l : Int)), (10, v), (11, .int .i64 (s.1 : Int)), (12, .int .u64 (gv ps k : Int)), (13, .bool s.2.1), (14, .int .i64 (d : Int)), (15, .int .i64 (l : Int))]) (fun s wr => k ≤ s.1 ∧ s.1 < List.length ps ∧ sz (ab s.2.2) ≤ 50 * l + s.1 + 1 ∧ ups (ps.drop k) = gv ps k / 2 :: ups (ps.drop (s.1 + 1)) ∧ Go.Sx.lvl fl fp l (ps.drop k) (ab s1) = Go.Sx.lvl fl fp l (ps.drop (s.1 + 1)) (fp (ab s.2.2) (gv ps k) s.2.1) ∧ Iv (ab s.2.2) (List.length acc) (List.length ps - k) ∧ (if s.2.1 = true then 2 else 1) = s.1 + 1 - k ∧ Mem w wr FF [row v 23 1 (List.length acc) (u64V acc), optR own (row (.slice (some ⟨b0, o0, none⟩) (List.length ps) c0) 23 1 (List.length ps) (u64V ps)), Jr s.2.2]) ?_ ?_
          ·
            refine qD ?_
            refine qA ?_
            refine qE ?_
            refine WC.cond_dec rfl (fun h48 => ?_) (fun h48 => ?_)
            · skip
              refine WC.region ?_
              refine qA ?_
              refine WL.ex rfl rfl rfl (Ex.add rfl rfl (c := ((k + 1 : Nat) : Int)) (wrapN (by omega) (by omega))) ?_
              refine qB ?_
              refine WL.nil ?_
              refine WX.join (((k + 1, decide (((gv ps (k + 1) : Nat) : Int) = ((gv ps k + 1 : Nat) : Int)), s1) : Nat × Bool × σ)) ?_ (.cons rfl (.cons rfl (.cons rfl (.cons rfl (.cons rfl (.cons rfl (.cons rfl (.cons rfl (.cons rfl (.cons rfl (.nil)))))))))))
              have hst := step_b fl fp (l := l) (t := ab s1) (by omega : k + 1 < ps.length) (by omega) (by omega)
              rw [decide_eq_true h48]
              exact ⟨by dsimp only; omega, by dsimp only; omega, by dsimp only; omega, hst.1, hst.2, hiv, (by dsimp only; rw [if_pos rfl]; omega), M10⟩
            · skip
              refine qD ?_
              refine qA ?_
              refine qA ?_
              refine qA ?_
              refine WL.ex rfl rfl rfl (Ex.bxor rfl rfl (bxor1 hgk)) ?_
              refine WL.ac rfl rfl rfl (Ac.callv rfl rfl (hl s1 w10 l (gv ps k ^^^ 1) ⟨_, _, hiv⟩ (by omega) (by omega) (xor1_lt hgk) (by have K9 := M10.keep; rw [hFF] at K9; exact K9) (M10.get (i := 2) rfl))) ?_; rintro v49 w49 ⟨s2, b2, rfl, T49, hfl⟩
              have M49 := M10.turned (i := 2) rfl T49
              try dsimp only [List.set] at M49
              have hns : ¬ (gv ps k % 2 = 0 ∧ k + 1 < ps.length ∧ gv ps (k + 1) = gv ps k + 1) := by omega
              refine WL.ex rfl rfl rfl (Ex.not rfl) ?_
              refine qE ?_
              refine WC.cond rfl (fun h56 => ?_) (fun h56 => ?_)
              · have hb2 : b2 = false := by simpa using h56
                subst hb2
                have hendn : climbF fl fp d 0 zs (ab s0) = none := by
                  rw [hcf, show d - l = d - l - 1 + 1 by omega, climbF, hlv, step_n fl fp (by omega) hns hfl]
                  rfl
                refine qD ?_
                refine qB ?_
                refine qE ?_
                refine WC.ret ?_
                refine WX.ret_then (WX.ret_block (WX.ret_then (WX.ret_then (WX.ret_block (WX.ret_then (WX.ret_block (WX.ret_then (WX.ret_then (WX.ret_block (WX.ret_then (?_)))))))))))
                refine WX.ret1 rfl rfl ?_
                have Mf : Mem w w49 FF [Jr s2] := (Mem.sub M49 (.cons _ (.cons _ (.refl _))))
                subst hFF
                exact ⟨s2, false, rfl, Mf.toTurn, hendn, fun h => by cases h⟩
              · have hb2 : b2 = true := by simpa using h56
                subst hb2
                have hz2 := hzl _ _ _ _ hfl
                have hst := step_s fl fp (by omega) hns hfl
                have hiv2 : Iv (ab s2) (List.length acc) (List.length ps - k) := hIl _ _ _ _ _ _ (by simpa using hfl) hiv
                refine WC.skip ?_
                refine WX.join (((k, decide (((gv ps (k + 1) : Nat) : Int) = ((gv ps k + 1 : Nat) : Int)), s2) : Nat × Bool × σ)) ?_ (.cons rfl (.cons rfl (.cons rfl (.cons rfl (.cons rfl (.cons rfl (.cons rfl (.cons rfl (.cons rfl (.cons rfl (.nil)))))))))))
                rw [decide_eq_false h48]
                exact ⟨by dsimp only; omega, by dsimp only; omega, by dsimp only; omega, hst.1, hst.2, hiv2, (by dsimp only; rw [if_neg (by decide)]; omega), M49⟩
          · rintro ⟨k1, bt, s2⟩ w52 ⟨hk1, hk1l, hs2, hu1, hl1, hiv2, hbt, M52⟩
            dsimp only at hk1 hk1l hs2 hu1 hl1 hiv2 hbt M52
            refine WC.sub (env' := [(1, .slice (some ⟨b0, o0, none⟩) (List.length ps) c0), (2, lv), (3, pv), (9, .int .i64 (l : Int)), (10, v), (11, .int .i64 (k1 : Int)), (12, .int .u64 (gv ps k : Int)), (13, .bool bt), (14, .int .i64 (d : Int)), (15, .int .i64 (l : Int))]) (.cons rfl (.cons rfl (.cons rfl (.cons rfl (.cons rfl (.cons rfl (.cons rfl (.cons rfl (.cons rfl (.cons rfl (.nil))))))))))) ?_
            refine qD ?_
            refine qA ?_
            refine qA ?_
            refine qA ?_
            refine WL.ac rfl rfl rfl (Ac.callv rfl rfl (hp s2 w52 (gv ps k) bt hgk ⟨_, _, hiv2, by rw [hbt]; omega⟩ (by have K9 := M52.keep; rw [hFF] at K9; exact K9) (M52.get (i := 2) rfl))) ?_; rintro v56 w56 ⟨s3, T56, hs3⟩
            have M56 := M52.turned (i := 2) rfl T56
            try dsimp only [List.set] at M56
            have hz3 := hzp (ab s2) (gv ps k) bt
            rw [← hs3] at hz3
            have hup2 : ups ps = acc ++ ([gv ps k / 2] ++ ups (ps.drop (k1 + 1))) := by rw [hup, hu1]; rfl
            have hlv2 := hlv.trans hl1
            have habn := gv_snoc_lt hab (show gv ps k / 2 < 18446744073709551616 by omega)
            have hiv3 := hIp _ (gv ps k) bt _ _ hiv2 (by rw [hbt]; omega)
            rw [hbt, ← hs3, show List.length ps - k - (k1 + 1 - k) = List.length ps - (k1 + 1) by omega] at hiv3
            have hiv4 : Iv (ab s3) (List.length (acc ++ [gv ps k / 2])) (List.length ps - (k1 + 1)) := by rw [List.length_append, List.length_singleton]; exact hiv3
            refine qE ?_
            refine WC.region ?_
            refine qA ?_
            refine qA ?_
            refine WL.ex rfl rfl rfl (Ex.quo rfl rfl (by omega) (c := ((gv ps k / 2 : Nat) : Int)) (by rw [Int.tdiv_eq_ediv_of_nonneg (by omega), show (gv ps k : Int) / 2 = ((gv ps k / 2 : Nat) : Int) by omega]; exact u64w_lt _ (by omega))) ?_
            refine WL.ac rfl rfl rfl (Ac.bs M56 (parts := [(0, .tmp 63)]) (l := u64V [gv ps k / 2]) rfl rfl (LitS.one el67 rfl)) ?_; rintro v60 w60 ⟨gs, rfl, hg60, K60, M60⟩
            refine WL.ac rfl rfl rfl (Ac.app M60 el67 rfl rfl (i := 1) rfl (by simp) (M60.rdw (i := 0) rfl) (u64V_one _) (by omega) (by unfold maxLen; omega)) ?_; rintro v61 w61 ⟨K61, M61⟩
            try dsimp only [List.set] at M61
            rw [← u64V_append, show acc.length + 1 = (acc ++ [gv ps k / 2]).length by simp] at M61
            refine qB ?_
            refine WL.nil ?_
            refine WX.normal_block (WX.next (?_))
            refine WC.region ?_
            refine qA ?_
            refine WL.ex rfl rfl rfl (Ex.add rfl rfl (c := ((k1 + 1 : Nat) : Int)) (wrapN (by omega) (by omega))) ?_
            refine qB ?_
            refine WL.nil ?_
            refine WX.again (((k1 + 1, v61, acc ++ [gv ps k / 2], s3) : Nat × Value × List Nat × σ)) ?_ ?_ (.cons rfl (.cons rfl (.cons rfl (.cons rfl (.cons rfl (.cons rfl (.cons rfl (.cons rfl (.nil)))))))))
            · dsimp only; omega
            · exact ⟨by dsimp only; omega, by simp; omega, (fun _ => by simp), habn, by dsimp only; omega, by dsimp only; rw [List.append_assoc]; exact hup2, by dsimp only; rw [hs3]; exact hlv2, hiv4, (Mem.sub M61 (.cons _ (.refl _)))⟩
        · rw [decide_eq_false hk2]
          refine WL.no rfl rfl rfl rfl rfl rfl ?_
          refine WL.no rfl rfl rfl rfl rfl rfl ?_
          refine WL.no rfl rfl rfl rfl rfl rfl ?_
          refine WL.no rfl rfl rfl rfl rfl rfl ?_
          refine WL.no rfl rfl rfl rfl rfl rfl ?_
          refine WL.no rfl rfl rfl rfl rfl rfl ?_
          refine WL.no rfl rfl rfl rfl rfl rfl ?_
          refine WL.no rfl rfl rfl rfl rfl rfl ?_
          refine WL.ex rfl rfl rfl (Ex.pickF rfl rfl) ?_
          refine qB ?_
          refine qE ?_
          refine WC.cut (σ := Nat × Bool × σ) (fun s => [(1, .slice (some ⟨b0, o0, none⟩) (List.length ps) c0), (2, lv), (3, pv), (9, .int .i64 (l : Int)), (10, v), (11, .int .i64 (s.1 : Int)), (12, .int .u64 (gv ps k : Int)), (13, .bool s.2.1), (14, .int .i64 (d : Int)), (15, .int .i64 (l : Int))]) (fun s wr => k ≤ s.1 ∧ s.1 < List.length ps ∧ sz (ab s.2.2) ≤ 50 * l + s.1 + 1 ∧ ups (ps.drop k) = gv ps k / 2 :: ups (ps.drop (s.1 + 1)) ∧ Go.Sx.lvl fl fp l (ps.drop k) (ab s1) = Go.Sx.lvl fl fp l (ps.drop (s.1 + 1)) (fp (ab s.2.2) (gv ps k) s.2.1) ∧ Iv (ab s.2.2) (List.length acc) (List.length ps - k) ∧ (if s.2.1 = true then 2 else 1) = s.1 + 1 - k ∧ Mem w wr FF [row v 23 1 (List.length acc) (u64V acc), optR own (row (.slice (some ⟨b0, o0, none⟩) (List.length ps) c0) 23 1 (List.length ps) (u64V ps)), Jr s.2.2]) ?_ ?_
          ·
            refine qD ?_
            refine qA ?_
            refine qE ?_
            refine WC.no rfl ?_
            refine qD ?_
            refine qA ?_
            refine qA ?_
            refine qA ?_
            refine WL.ex rfl rfl rfl (Ex.bxor rfl rfl (bxor1 hgk)) ?_
            refine WL.ac rfl rfl rfl (Ac.callv rfl rfl (hl s1 w10 l (gv ps k ^^^ 1) ⟨_, _, hiv⟩ (by omega) (by omega) (xor1_lt hgk) (by have K9 := M10.keep; rw [hFF] at K9; exact K9) (M10.get (i := 2) rfl))) ?_; rintro v73 w73 ⟨s2, b2, rfl, T73, hfl⟩
            have M73 := M10.turned (i := 2) rfl T73
            try dsimp only [List.set] at M73
            have hns : ¬ (gv ps k % 2 = 0 ∧ k + 1 < ps.length ∧ gv ps (k + 1) = gv ps k + 1) := by omega
            refine WL.ex rfl rfl rfl (Ex.not rfl) ?_
            refine qE ?_
            refine WC.cond rfl (fun h56 => ?_) (fun h56 => ?_)
            · have hb2 : b2 = false := by simpa using h56
              subst hb2
              have hendn : climbF fl fp d 0 zs (ab s0) = none := by
                rw [hcf, show d - l = d - l - 1 + 1 by omega, climbF, hlv, step_n fl fp (by omega) hns hfl]
                rfl
              refine qD ?_
              refine qB ?_
              refine qE ?_
              refine WC.ret ?_
              refine WX.ret_then (WX.ret_block (WX.ret_then (WX.ret_then (WX.ret_block (WX.ret_then (WX.ret_block (WX.ret_then (WX.ret_then (WX.ret_block (WX.ret_then (?_)))))))))))
              refine WX.ret1 rfl rfl ?_
              have Mf : Mem w w73 FF [Jr s2] := (Mem.sub M73 (.cons _ (.cons _ (.refl _))))
              subst hFF
              exact ⟨s2, false, rfl, Mf.toTurn, hendn, fun h => by cases h⟩
            · have hb2 : b2 = true := by simpa using h56
              subst hb2
              have hz2 := hzl _ _ _ _ hfl
              have hst := step_s fl fp (by omega) hns hfl
              have hiv2 : Iv (ab s2) (List.length acc) (List.length ps - k) := hIl _ _ _ _ _ _ (by simpa using hfl) hiv
              refine WC.skip ?_
              refine WX.join (((k, false, s2) : Nat × Bool × σ)) ?_ (.cons rfl (.cons rfl (.cons rfl (.cons rfl (.cons rfl (.cons rfl (.cons rfl (.cons rfl (.cons rfl (.cons rfl (.nil)))))))))))
              exact ⟨by dsimp only; omega, by dsimp only; omega, by dsimp only; omega, hst.1, hst.2, hiv2, (by dsimp only; rw [if_neg (by decide)]; omega), M73⟩
          · rintro ⟨k1, bt, s2⟩ w76 ⟨hk1, hk1l, hs2, hu1, hl1, hiv2, hbt, M76⟩
            dsimp only at hk1 hk1l hs2 hu1 hl1 hiv2 hbt M76
            refine WC.sub (env' := [(1, .slice (some ⟨b0, o0, none⟩) (List.length ps) c0), (2, lv), (3, pv), (9, .int .i64 (l : Int)), (10, v), (11, .int .i64 (k1 : Int)), (12, .int .u64 (gv ps k : Int)), (13, .bool bt), (14, .int .i64 (d : Int)), (15, .int .i64 (l : Int))]) (.cons rfl (.cons rfl (.cons rfl (.cons rfl (.cons rfl (.cons rfl (.cons rfl (.cons rfl (.cons rfl (.cons rfl (.nil))))))))))) ?_
            refine qD ?_
            refine qA ?_
            refine qA ?_
            refine qA ?_
            refine WL.ac rfl rfl rfl (Ac.callv rfl rfl (hp s2 w76 (gv ps k) bt hgk ⟨_, _, hiv2, by rw [hbt]; omega⟩ (by have K9 := M76.keep; rw [hFF] at K9; exact K9) (M76.get (i := 2) rfl))) ?_; rintro v80 w80 ⟨s3, T80, hs3⟩
            have M80 := M76.turned (i := 2) rfl T80
            try dsimp only [List.set] at M80
            have hz3 := hzp (ab s2) (gv ps k) bt
            rw [← hs3] at hz3
            have hup2 : ups ps = acc ++ ([gv ps k / 2] ++ ups (ps.drop (k1 + 1))) := by rw [hup, hu1]; rfl
            have hlv2 := hlv.trans hl1
            have habn := gv_snoc_lt hab (show gv ps k / 2 < 18446744073709551616 by omega)
            have hiv3 := hIp _ (gv ps k) bt _ _ hiv2 (by rw [hbt]; omega)
            rw [hbt, ← hs3, show List.length ps - k - (k1 + 1 - k) = List.length ps - (k1 + 1) by omega] at hiv3
            have hiv4 : Iv (ab s3) (List.length (acc ++ [gv ps k / 2])) (List.length ps - (k1 + 1)) := by rw [List.length_append, List.length_singleton]; exact hiv3
            refine qE ?_
            refine WC.region ?_
            refine qA ?_
            refine qA ?_
            refine WL.ex rfl rfl rfl (Ex.quo rfl rfl (by omega) (c := ((gv ps k / 2 : Nat) : Int)) (by rw [Int.tdiv_eq_ediv_of_nonneg (by omega), show (gv ps k : Int) / 2 = ((gv ps k / 2 : Nat) : Int) by omega]; exact u64w_lt _ (by omega))) ?_
            refine WL.ac rfl rfl rfl (Ac.bs M80 (parts := [(0, .tmp 63)]) (l := u64V [gv ps k / 2]) rfl rfl (LitS.one el67 rfl)) ?_; rintro v84 w84 ⟨gs, rfl, hg84, K84, M84⟩
            refine WL.ac rfl rfl rfl (Ac.app M84 el67 rfl rfl (i := 1) rfl (by simp) (M84.rdw (i := 0) rfl) (u64V_one _) (by omega) (by unfold maxLen; omega)) ?_; rintro v85 w85 ⟨K85, M85⟩
            try dsimp only [List.set] at M85
            rw [← u64V_append, show acc.length + 1 = (acc ++ [gv ps k / 2]).length by simp] at M85
            refine qB ?_
            refine WL.nil ?_
            refine WX.normal_block (WX.next (?_))
            refine WC.region ?_
            refine qA ?_
            refine WL.ex rfl rfl rfl (Ex.add rfl rfl (c := ((k1 + 1 : Nat) : Int)) (wrapN (by omega) (by omega))) ?_
            refine qB ?_
            refine WL.nil ?_
            refine WX.again (((k1 + 1, v85, acc ++ [gv ps k / 2], s3) : Nat × Value × List Nat × σ)) ?_ ?_ (.cons rfl (.cons rfl (.cons rfl (.cons rfl (.cons rfl (.cons rfl (.cons rfl (.cons rfl (.nil)))))))))
            · dsimp only; omega
            · exact ⟨by dsimp only; omega, by simp; omega, (fun _ => by simp), habn, by dsimp only; omega, by dsimp only; rw [List.append_assoc]; exact hup2, by dsimp only; rw [hs3]; exact hlv2, hiv4, (Mem.sub M85 (.cons _ (.refl _)))⟩
      · rw [decide_eq_false he]
        refine WL.no rfl rfl rfl rfl rfl rfl ?_
        refine WL.no rfl rfl rfl rfl rfl rfl ?_
        refine WL.no rfl rfl rfl rfl rfl rfl ?_
        refine WL.no rfl rfl rfl rfl rfl rfl ?_
        refine WL.no rfl rfl rfl rfl rfl rfl ?_
        refine WL.ex rfl rfl rfl (Ex.pickF rfl rfl) ?_
        refine qA ?_
        refine WL.no rfl rfl rfl rfl rfl rfl ?_
        refine WL.no rfl rfl rfl rfl rfl rfl ?_
        refine WL.no rfl rfl rfl rfl rfl rfl ?_
        refine WL.no rfl rfl rfl rfl rfl rfl ?_
        refine WL.no rfl rfl rfl rfl rfl rfl ?_
        refine WL.no rfl rfl rfl rfl rfl rfl ?_
        refine WL.no rfl rfl rfl rfl rfl rfl ?_
        refine WL.no rfl rfl rfl rfl rfl rfl ?_
        refine WL.ex rfl rfl rfl (Ex.pickF rfl rfl) ?_
        refine qB ?_
        refine qE ?_
        refine WC.cut (σ := Nat × Bool × σ) (fun s => [(1, .slice (some ⟨b0, o0, none⟩) (List.length ps) c0), (2, lv), (3, pv), (9, .int .i64 (l : Int)), (10, v), (11, .int .i64 (s.1 : Int)), (12, .int .u64 (gv ps k : Int)), (13, .bool s.2.1), (14, .int .i64 (d : Int)), (15, .int .i64 (l : Int))]) (fun s wr => k ≤ s.1 ∧ s.1 < List.length ps ∧ sz (ab s.2.2) ≤ 50 * l + s.1 + 1 ∧ ups (ps.drop k) = gv ps k / 2 :: ups (ps.drop (s.1 + 1)) ∧ Go.Sx.lvl fl fp l (ps.drop k) (ab s1) = Go.Sx.lvl fl fp l (ps.drop (s.1 + 1)) (fp (ab s.2.2) (gv ps k) s.2.1) ∧ Iv (ab s.2.2) (List.length acc) (List.length ps - k) ∧ (if s.2.1 = true then 2 else 1) = s.1 + 1 - k ∧ Mem w wr FF [row v 23 1 (List.length acc) (u64V acc), optR own (row (.slice (some ⟨b0, o0, none⟩) (List.length ps) c0) 23 1 (List.length ps) (u64V ps)), Jr s.2.2]) ?_ ?_
        ·
          refine qD ?_
          refine qA ?_
          refine qE ?_
          refine WC.no rfl ?_
          refine qD ?_
          refine qA ?_
          refine qA ?_
          refine qA ?_
          refine WL.ex rfl rfl rfl (Ex.bxor rfl rfl (bxor1 hgk)) ?_
          refine WL.ac rfl rfl rfl (Ac.callv rfl rfl (hl s1 w10 l (gv ps k ^^^ 1) ⟨_, _, hiv⟩ (by omega) (by omega) (xor1_lt hgk) (by have K9 := M10.keep; rw [hFF] at K9; exact K9) (M10.get (i := 2) rfl))) ?_; rintro v99 w99 ⟨s2, b2, rfl, T99, hfl⟩
          have M99 := M10.turned (i := 2) rfl T99
          try dsimp only [List.set] at M99
          have hns : ¬ (gv ps k % 2 = 0 ∧ k + 1 < ps.length ∧ gv ps (k + 1) = gv ps k + 1) := by omega
          refine WL.ex rfl rfl rfl (Ex.not rfl) ?_
          refine qE ?_
          refine WC.cond rfl (fun h56 => ?_) (fun h56 => ?_)
          · have hb2 : b2 = false := by simpa using h56
            subst hb2
            have hendn : climbF fl fp d 0 zs (ab s0) = none := by
              rw [hcf, show d - l = d - l - 1 + 1 by omega, climbF, hlv, step_n fl fp (by omega) hns hfl]
              rfl
            refine qD ?_
            refine qB ?_
            refine qE ?_
            refine WC.ret ?_
            refine WX.ret_then (WX.ret_block (WX.ret_then (WX.ret_then (WX.ret_block (WX.ret_then (WX.ret_block (WX.ret_then (WX.ret_then (WX.ret_block (WX.ret_then (?_)))))))))))
            refine WX.ret1 rfl rfl ?_
            have Mf : Mem w w99 FF [Jr s2] := (Mem.sub M99 (.cons _ (.cons _ (.refl _))))
            subst hFF
            exact ⟨s2, false, rfl, Mf.toTurn, hendn, fun h => by cases h⟩
          · have hb2 : b2 = true := by simpa using h56
            subst hb2
            have hz2 := hzl _ _ _ _ hfl
            have hst := step_s fl fp (by omega) hns hfl
            have hiv2 : Iv (ab s2) (List.length acc) (List.length ps - k) := hIl _ _ _ _ _ _ (by simpa using hfl) hiv
            refine WC.skip ?_
            refine WX.join (((k, false, s2) : Nat × Bool × σ)) ?_ (.cons rfl (.cons rfl (.cons rfl (.cons rfl (.cons rfl (.cons rfl (.cons rfl (.cons rfl (.cons rfl (.cons rfl (.nil)))))))))))
            exact ⟨by dsimp only; omega, by dsimp only; omega, by dsimp only; omega, hst.1, hst.2, hiv2, (by dsimp only; rw [if_neg (by decide)]; omega), M99⟩
        · rintro ⟨k1, bt, s2⟩ w102 ⟨hk1, hk1l, hs2, hu1, hl1, hiv2, hbt, M102⟩
          dsimp only at hk1 hk1l hs2 hu1 hl1 hiv2 hbt M102
          refine WC.sub (env' := [(1, .slice (some ⟨b0, o0, none⟩) (List.length ps) c0), (2, lv), (3, pv), (9, .int .i64 (l : Int)), (10, v), (11, .int .i64 (k1 : Int)), (12, .int .u64 (gv ps k : Int)), (13, .bool bt), (14, .int .i64 (d : Int)), (15, .int .i64 (l : Int))]) (.cons rfl (.cons rfl (.cons rfl (.cons rfl (.cons rfl (.cons rfl (.cons rfl (.cons rfl (.cons rfl (.cons rfl (.nil))))))))))) ?_
          refine qD ?_
          refine qA ?_
          refine qA ?_
          refine qA ?_
          refine WL.ac rfl rfl rfl (Ac.callv rfl rfl (hp s2 w102 (gv ps k) bt hgk ⟨_, _, hiv2, by rw [hbt]; omega⟩ (by have K9 := M102.keep; rw [hFF] at K9; exact K9) (M102.get (i := 2) rfl))) ?_; rintro v106 w106 ⟨s3, T106, hs3⟩
          have M106 := M102.turned (i := 2) rfl T106
          try dsimp only [List.set] at M106
          have hz3 := hzp (ab s2) (gv ps k) bt
          rw [← hs3] at hz3
          have hup2 : ups ps = acc ++ ([gv ps k / 2] ++ ups (ps.drop (k1 + 1))) := by rw [hup, hu1]; rfl
          have hlv2 := hlv.trans hl1
          have habn := gv_snoc_lt hab (show gv ps k / 2 < 18446744073709551616 by omega)
          have hiv3 := hIp _ (gv ps k) bt _ _ hiv2 (by rw [hbt]; omega)
          rw [hbt, ← hs3, show List.length ps - k - (k1 + 1 - k) = List.length ps - (k1 + 1) by omega] at hiv3
          have hiv4 : Iv (ab s3) (List.length (acc ++ [gv ps k / 2])) (List.length ps - (k1 + 1)) := by rw [List.length_append, List.length_singleton]; exact hiv3
          refine qE ?_
          refine WC.region ?_
          refine qA ?_
          refine qA ?_
          refine WL.ex rfl rfl rfl (Ex.quo rfl rfl (by omega) (c := ((gv ps k / 2 : Nat) : Int)) (by rw [Int.tdiv_eq_ediv_of_nonneg (by omega), show (gv ps k : Int) / 2 = ((gv ps k / 2 : Nat) : Int) by omega]; exact u64w_lt _ (by omega))) ?_
          refine WL.ac rfl rfl rfl (Ac.bs M106 (parts := [(0, .tmp 63)]) (l := u64V [gv ps k / 2]) rfl rfl (LitS.one el67 rfl)) ?_; rintro v110 w110 ⟨gs, rfl, hg110, K110, M110⟩
          refine WL.ac rfl rfl rfl (Ac.app M110 el67 rfl rfl (i := 1) rfl (by simp) (M110.rdw (i := 0) rfl) (u64V_one _) (by omega) (by unfold maxLen; omega)) ?_; rintro v111 w111 ⟨K111, M111⟩
          try dsimp only [List.set] at M111
          rw [← u64V_append, show acc.length + 1 = (acc ++ [gv ps k / 2]).length by simp] at M111
          refine qB ?_
          refine WL.nil ?_
          refine WX.normal_block (WX.next (?_))
          refine WC.region ?_
          refine qA ?_
          refine WL.ex rfl rfl rfl (Ex.add rfl rfl (c := ((k1 + 1 : Nat) : Int)) (wrapN (by omega) (by omega))) ?_
          refine qB ?_
          refine WL.nil ?_
          refine WX.again (((k1 + 1, v111, acc ++ [gv ps k / 2], s3) : Nat × Value × List Nat × σ)) ?_ ?_ (.cons rfl (.cons rfl (.cons rfl (.cons rfl (.cons rfl (.cons rfl (.cons rfl (.cons rfl (.nil)))))))))
          · dsimp only; omega
          · exact ⟨by dsimp only; omega, by simp; omega, (fun _ => by simp), habn, by dsimp only; omega, by dsimp only; rw [List.append_assoc]; exact hup2, by dsimp only; rw [hs3]; exact hlv2, hiv4, (Mem.sub M111 (.cons _ (.refl _)))⟩
    · obtain rfl : k = ps.length := by omega
      rw [List.drop_length] at hup hlv
      have hul := ups_len ps
      rw [show ups [] = [] from rfl, List.append_nil] at hup
      have hcf2 : climbF fl fp d 0 zs (ab s0) = climbF fl fp (d - (l + 1)) (l + 1) acc (ab s1) := by
        rw [hcf, show d - l = d - (l + 1) + 1 by omega, climbF, hlv, hup]
        rfl
      have hivn : Iv (ab s1) 0 (List.length acc) := hIe _ _ (by rw [Nat.sub_self] at hiv; exact hiv)
      obtain ⟨A2, c2, rfl⟩ := own_slice (M10.get (i := 0) rfl)
      obtain ⟨g2, rfl⟩ := own_some (M10.get (i := 0) rfl) (by omega)
      try rw [hup] at hul
      refine WC.exit ?_
      refine WX.exit_then (WX.exit_then (WX.exit_block (WX.next (?_))))
      refine WC.region ?_
      refine qA ?_
      refine qB ?_
      refine WL.nil ?_
      refine WX.normal_block (WX.next (?_))
      refine WC.region ?_
      refine WL.ex rfl rfl rfl (Ex.add rfl rfl (c := ((l + 1 : Nat) : Int)) (wrapN (by omega) (by omega))) ?_
      refine qA ?_
      refine WL.nil ?_
      refine WX.again (((l + 1, true, g2, 0, c2, acc, s1) : Nat × Bool × Nat × Nat × Nat × List Nat × σ)) ?_ ?_ (.cons rfl (.cons rfl (.cons rfl (.cons rfl (.cons rfl (.nil))))))
      · dsimp only; omega
      · exact ⟨by dsimp only; omega, by dsimp only; omega, by dsimp only; omega, hab, (fun h => by cases h), by dsimp only; omega, hcf2, hivn, (Mem.sub M10 (.cons_cons _ (.cons _ (.refl _))))⟩
  · have hend : climbF fl fp d 0 zs (ab s0) = some (ab sj) := by
      rw [hcf, show d - l = 0 by omega]
      rfl
    refine WC.exit ?_
    refine WX.exit_then (WX.exit_then (WX.exit_block (WX.next (?_))))
    refine qD ?_
    refine qB ?_
    refine qE ?_
    refine WC.ret ?_
    refine WX.ret1 rfl rfl ?_
    have Mf : Mem w w4 FF [Jr sj] := (Mem.sub M4 (.cons _ (.refl _)))
    subst hFF
    exact ⟨sj, true, rfl, Mf.toTurn, hend, fun _ => ⟨_, hiv0⟩⟩

end Go.Proofs.YtchmjpdkonfifaaDoor

set_option linter.unusedVariables false
set_option linter.unusedSimpArgs false
namespace Go.Proofs.YtchmjpdkonfifaaDoor
open Go.Sx Go.RowKit
attribute [local irreducible] Ac Ex WL WC WX WP Gives sha

def wrongF (d : Int) (xs : List Nat) (z : Int) : Int :=
  if d < 0 ∨ 32 < d then 1 else if xs.length = 0 then 3 else if ¬ (xs.Pairwise (· < ·) ∧ z = xs.length) then 6 else if (xs.any fun x => decide (2 ^ d.toNat ≤ x)) = true then 10 else 0

/- (sponsion/multi.Bundle).wrong -/
theorem wrong_ok (w : World) (A B : Option Addr) (c m cb : Nat) (xs : List Nat) (d z : Int) (hr : Rd w A (u64V xs)) (hx : ∀ k, gv xs k < 18446744073709551616) (hn50 : xs.length < 50) :
    Gives Tryd.prog 70 #[.agg #[.slice A xs.length c, .slice B m cb], .int .i64 d, .int .i64 z] w fun u w1 => u = .int .i64 (wrongF d xs z) ∧ Keep nof w w1 := by
  have M0 := Mem.start w nof
  refine Gives.enter (n := 39) Tryd.func70 rfl Tryd.ntmps70 rfl (env := [(0, .agg #[.slice A xs.length c, .slice B m cb]), (1, .int .i64 d), (2, .int .i64 z)]) rfl ?_
  refine qD ?_
  refine WL.ac rfl rfl rfl (Ac.box M0 rfl (l := [.slice A xs.length c, .slice B m cb]) rfl) ?_; rintro v1 w1 ⟨gb, rfl, hg1, K1, M1⟩
  refine qB ?_
  refine qE ?_
  refine WC.seq ?_
  refine WC.block ?_
  refine qD ?_
  refine qA ?_
  refine WL.ex rfl rfl rfl (Ex.lss rfl rfl) ?_
  refine qA ?_
  by_cases hd0 : d < 0
  · rw [decide_eq_true hd0]
    have hwr : wrongF d xs z = 1 := if_pos (.inl hd0)
    refine WL.no rfl rfl rfl rfl rfl rfl ?_
    refine WL.no rfl rfl rfl rfl rfl rfl ?_
    refine WL.ex rfl rfl rfl (Ex.pickT rfl rfl) ?_
    refine qB ?_
    refine qE ?_
    refine WC.yes rfl ?_
    refine qD ?_
    refine qB ?_
    refine qE ?_
    refine WC.ret ?_
    refine WX.ret_block (WX.ret_then (?_))
    refine WX.ret1 rfl rfl ?_
    rw [hwr]
    exact ⟨rfl, M1.keep⟩
  · rw [decide_eq_false hd0]
    refine WL.yes rfl rfl rfl rfl ?_
    refine qA ?_
    refine WL.yes rfl rfl rfl rfl ?_
    refine WL.ex rfl rfl rfl (Ex.gtr rfl rfl) ?_
    refine WL.ex rfl rfl rfl (Ex.pickF rfl rfl) ?_
    refine qB ?_
    refine qE ?_
    refine WC.cond_dec rfl (fun h7 => ?_) (fun h7 => ?_)
    · have hwr : wrongF d xs z = 1 := if_pos (by omega)
      refine qD ?_
      refine qB ?_
      refine qE ?_
      refine WC.ret ?_
      refine WX.ret_block (WX.ret_then (?_))
      refine WX.ret1 rfl rfl ?_
      rw [hwr]
      exact ⟨rfl, M1.keep⟩
    · have hw : ¬ (d < 0 ∨ 32 < d) := by omega
      obtain ⟨dn, rfl⟩ : ∃ dn : Nat, d = (dn : Int) := ⟨d.toNat, by omega⟩
      refine qD ?_
      refine WL.ex rfl rfl rfl (Ex.fa fl72_0 rfl) ?_
      refine WL.ex rfl rfl rfl (Ex.load ty67 rfl (M1.cell (i := 0) (v := .slice A xs.length c) rfl rfl)) ?_
      refine WL.ex rfl rfl rfl (Ex.len Tryd.underlying67 rfl) ?_
      refine WL.ex rfl rfl rfl (Ex.eqI rfl rfl) ?_
      refine qB ?_
      refine qE ?_
      refine WC.cond_dec rfl (fun h14 => ?_) (fun h14 => ?_)
      · have hwr : wrongF (dn : Int) xs z = 3 := by rw [wrongF, if_neg hw, if_pos (by omega)]
        refine qD ?_
        refine qB ?_
        refine qE ?_
        refine WC.ret ?_
        refine WX.ret_block (WX.ret_then (?_))
        refine WX.ret1 rfl rfl ?_
        rw [hwr]
        exact ⟨rfl, M1.keep⟩
      · have hl0 : ¬ xs.length = 0 := by omega
        refine WC.seq ?_
        refine WC.draw (Keep nof w1.drew) [] (.one 0 0 (.one 3 0 (.one 1 1 (.one 4 1 (.one 2 2 (.one 5 2 (.one 6 0 (.one 7 0 (.one 8 0 (.one 9 0 (.one 10 1 (.one 11 0 (.one 12 0 (.one 13 0 (.one 14 0 .nil))))))))))))))) mixed (by kernel_rfl) (by kernel_rfl) (by kernel_rfl) (HQ.then_ (HQ.block (HQ.then_ HQ.body))) ?_
        obtain ⟨w20, hw20⟩ : ∃ v, v = w1.drew := ⟨_, rfl⟩
        have D20 : Keep nof w1 w20 := by rw [hw20]; exact Keep.drew _ _
        have M20 := M1.step D20
        rw [← hw20]; clear hw20
        refine WP.p rfl rfl rfl rfl (fun _ => Ex.fa fl72_0 rfl) ?_
        refine WP.p rfl rfl rfl rfl (fun _ => Ex.fa fl72_0 rfl) ?_
        refine WP.q (Keep.refl _ _) rfl rfl rfl rfl (fun w' hS => Ex.load ty67 rfl (hS.cell (M20.cell (i := 0) (v := .slice A xs.length c) rfl rfl) (fun f => f))) ?_
        refine WP.q (Keep.refl _ _) rfl rfl rfl rfl (fun w' hS => Ex.load ty67 rfl (hS.cell (M20.cell (i := 0) (v := .slice A xs.length c) rfl rfl) (fun f => f))) ?_
        refine WP.as rfl rfl rfl rfl (Ac.call rfl Tryd.func61 nm61 rfl (sorted_ok w20 A c xs (M20.rd hr) (by omega) hn50)) ?_; rintro v25 w25 ⟨g, zs, tl, c2, rfl, hri, hcl, hcm, N25⟩
        refine ⟨Keep nof w25, fun u h => N25.keep.trans h, Keep.refl _ _, ?_⟩
        have M25 := M20.new N25
        have hzl := hri.le
        have hzp := hri.pos
        refine WP.as rfl rfl rfl rfl (Ac.call rfl Tryd.func93 nm93 rfl (eqU_ok w25 (some ⟨g, 0, none⟩) A c2 c zs xs (ub_rdv (M25.get (i := 0) rfl)) (M25.rd hr) (by omega) (by omega))) ?_; rintro v26 w26 ⟨rfl, K26⟩
        refine ⟨Keep nof w26, fun u h => K26.trans h, Keep.refl _ _, ?_⟩
        have M26 := M25.step K26
        by_cases heq : zs = xs
        · rw [decide_eq_true heq]
          have hpw : xs.Pairwise (· < ·) := heq ▸ si_pw hri.si
          refine WP.p rfl rfl rfl rfl (fun _ => Ex.not rfl) ?_
          refine qC ?_
          refine WP.py rfl rfl rfl rfl rfl rfl (fun _ => Ex.mv rfl) ?_
          refine WP.py rfl rfl rfl rfl rfl rfl (fun _ => Ex.fa fl72_0 rfl) ?_
          refine WP.qy (Keep.refl _ _) rfl rfl rfl rfl rfl rfl (fun w' hS => Ex.load ty67 rfl (hS.cell (M26.cell (i := 1) (v := .slice A xs.length c) rfl rfl) (fun f => f))) ?_
          refine WP.py rfl rfl rfl rfl rfl rfl (fun _ => Ex.len Tryd.underlying67 rfl) ?_
          refine WP.py rfl rfl rfl rfl rfl rfl (fun _ => Ex.neI rfl rfl) ?_
          refine WP.p rfl rfl rfl rfl (fun _ => Ex.pickF rfl rfl) ?_
          refine WP.p rfl rfl rfl rfl (fun _ => Ex.asg rfl) ?_
          refine WP.nil ?_
          refine WX.next ?_
          refine WC.cond rfl (fun h19 => ?_) (fun h19 => ?_)
          · have hz : ¬ z = (xs.length : Int) := by simpa using h19
            have hwr : wrongF (dn : Int) xs z = 6 := by rw [wrongF, if_neg hw, if_neg hl0, if_pos (fun h => hz h.2)]
            refine qD ?_
            refine qB ?_
            refine qE ?_
            refine WC.ret ?_
            refine WX.ret_block (WX.ret_then (?_))
            refine WX.ret1 rfl rfl ?_
            rw [hwr]
            exact ⟨rfl, M26.keep⟩
          · have hz : z = (xs.length : Int) := by simpa using h19
            refine qD ?_
            refine qA ?_
            refine WL.ex rfl rfl rfl (Ex.fa fl72_0 rfl) ?_
            refine WL.ex rfl rfl rfl (Ex.load ty67 rfl (M26.cell (i := 1) (v := .slice A xs.length c) rfl rfl)) ?_
            refine WL.ac rfl rfl rfl (Ac.call rfl Tryd.func66 nm66 rfl (bey_ok w26 A c dn xs (M26.rd hr) (by omega) (by omega))) ?_; rintro v40 w40 ⟨rfl, K40⟩
            have M40 := M26.step K40
            refine qB ?_
            refine qE ?_
            refine WC.cond rfl (fun h34 => ?_) (fun h34 => ?_)
            · have hwr : wrongF (dn : Int) xs z = 10 := by rw [wrongF, if_neg hw, if_neg hl0, if_neg (not_not_intro ⟨hpw, hz⟩), if_pos (by rw [Int.toNat_natCast]; exact h34)]
              refine qD ?_
              refine qB ?_
              refine qE ?_
              refine WC.ret ?_
              refine WX.ret_block (WX.ret_then (?_))
              refine WX.ret1 rfl rfl ?_
              rw [hwr]
              exact ⟨rfl, M40.keep⟩
            · have hwr : wrongF (dn : Int) xs z = 0 := by rw [wrongF, if_neg hw, if_neg hl0, if_neg (not_not_intro ⟨hpw, hz⟩), if_neg (by rw [Int.toNat_natCast, h34]; decide)]
              refine WC.skip ?_
              refine WX.normal_block (WX.next (?_))
              refine qD ?_
              refine qB ?_
              refine qE ?_
              refine WC.ret ?_
              refine WX.ret1 rfl rfl ?_
              rw [hwr]
              exact ⟨rfl, M40.keep⟩
        · rw [decide_eq_false heq]
          have hwr : wrongF (dn : Int) xs z = 6 := by rw [wrongF, if_neg hw, if_neg hl0, if_pos (fun h => heq (rise_eq hri h.1 (fun v => Iff.rfl)))]
          refine WP.p rfl rfl rfl rfl (fun _ => Ex.not rfl) ?_
          refine qC ?_
          refine WP.no rfl rfl rfl rfl rfl rfl rfl ?_
          refine WP.no rfl rfl rfl rfl rfl rfl rfl ?_
          refine WP.no1 (Keep.refl _ _) rfl rfl rfl rfl rfl rfl rfl ?_
          refine WP.no rfl rfl rfl rfl rfl rfl rfl ?_
          refine WP.no rfl rfl rfl rfl rfl rfl rfl ?_
          refine WP.p rfl rfl rfl rfl (fun _ => Ex.pickT rfl rfl) ?_
          refine WP.p rfl rfl rfl rfl (fun _ => Ex.asg rfl) ?_
          refine WP.nil ?_
          refine WX.next ?_
          refine WC.yes rfl ?_
          refine qD ?_
          refine qB ?_
          refine qE ?_
          refine WC.ret ?_
          refine WX.ret_block (WX.ret_then (?_))
          refine WX.ret1 rfl rfl ?_
          rw [hwr]
          exact ⟨rfl, M26.keep⟩

def pureR (p : Prop) : Res where
  fp := []
  sat _ := p
  lt _ _ b hb := by simp at hb
  loc _ _ h _ := h
abbrev rootJ (gk ck N : Nat) (tl : List Value) (g9 g10 g11 g12 g13 g15 : Nat) (s : KS) (A : Option Addr) (c : Nat) : Res :=
  sep (sep (sep (sep (sep (sep (blk gk (fl s.kn ++ tl) 31) (blk g9 [.slice (some ⟨gk, 0, none⟩) N ck] 39)) (blk g10 [.slice A s.ns.length c] 39)) (blk g11 (bytesV s.sd) 31)) (blk g12 [.int .i64 (s.pa : Int)] 3)) (blk g13 [.int .i64 (s.pi : Int)] 3)) (blk g15 [.int .i64 (s.lf : Int)] 3)
/-- What lies outside of what turns. -/
theorem rd_out {w0 w w' : World} {F : Nat → Prop} {rs : List Res} (M : Mem w0 w F rs) {is : List Nat} {A : Option Addr} {xs : List Value} (K : Keep (FP M is) w w') (h : Rd w0 A xs) (hA : ∀ a, A = some a → ¬ F a.block) : Rd w' A xs := fun j u hj => by
  obtain ⟨a, ha, hc⟩ := h j u hj
  have hF : ¬ F (a.add j).block := by rw [block_add]; exact hA a ha
  refine ⟨a, ha, K.cell (M.keep.cell hc hF) ?_⟩
  rintro ⟨i, _, r, hr, hb⟩
  have hlt := World.block_lt_of_cell? w0 _ hc
  rcases M.own r (List.mem_of_getElem? hr) _ hb with h1 | h1
  · omega
  · exact hF h1
theorem kn_at {l : Hs} {tl : List Value} {i o : Nat} {a : List UInt8} (h32 : ∀ a ∈ l, H32 a) (ha : l[i]? = some a) (ho : o = i * 32) : ((fl l ++ tl).drop o).take 32 = bytesV a := by
  have hi : i < l.length := (List.getElem?_eq_some_iff.1 ha).1
  have hl := fl_len h32
  rw [List.drop_append_of_le_length (by rw [hl]; omega), List.take_append_of_le_length (by rw [List.length_drop, hl]; omega)]
  exact flat_at (fun a ha => h32_len (h32 a ha)) ha ho
theorem kn_set {l : Hs} {tl : List Value} {i o : Nat} {a : List UInt8} (h32 : ∀ a ∈ l, H32 a) (ha : H32 a) (hi : i < l.length) (ho : o = i * 32) : splice (fl l ++ tl) o (bytesV a) = fl (l.set i a) ++ tl := by
  have hl := fl_len h32
  have hb : (bytesV a).length = 32 := h32_len ha
  have h1 : splice (fl l) o (bytesV a) = fl (l.set i a) := flat_set (fun a ha => h32_len (h32 a ha)) (h32_len ha) hi ho
  rw [← h1]
  unfold splice
  rw [List.take_append_of_le_length (by omega), List.drop_append_of_le_length (by omega)]
  simp [List.append_assoc]
theorem getD_get {l : Hs} {i : Nat} (h : i < l.length) : l[i]? = some (l.getD i z32) := by simp [h]
theorem getD_32 {l : Hs} (h32 : ∀ a ∈ l, H32 a) {i : Nat} (h : i < l.length) : H32 (l.getD i z32) := h32 _ (List.mem_of_getElem? (getD_get h))

end Go.Proofs.YtchmjpdkonfifaaDoor

set_option linter.unusedVariables false
set_option linter.unusedSimpArgs false
namespace Go.Proofs.YtchmjpdkonfifaaDoor
open Go.Sx Go.RowKit
attribute [local irreducible] Ac Ex WL WC WX WP Gives sha

/- (sponsion/multi.Bundle).Root$1 -/
theorem root1_ok (w : World) (gk ck N : Nat) (tl : List Value) (g9 g10 g11 g12 g13 g15 : Nat) (s : KS) (A : Option Addr) (c : Nat) (l i : Int) (hR : (rootJ gk ck N tl g9 g10 g11 g12 g13 g15 s A c).sat w) (hrd : Rd w A (fl s.ns)) (hA : s.ns ≠ [] → ∀ a, A = some a → a.block ∉ (rootJ gk ck N tl g9 g10 g11 g12 g13 g15 s A c).fp) (hns : ∀ a ∈ s.ns, H32 a) (hsd : H32 s.sd) (hnl : s.ns.length ≤ 100000) (hcap : s.ns.length ≤ c) :
    Gives Tryd.prog 72 #[.int .i64 l, .int .u64 i, .pointer (some ⟨g10, 0, none⟩), .pointer (some ⟨g11, 0, none⟩)] w fun u w1 => ∃ s' A' c' b, u = .bool b ∧ Turn w w1 (rootJ gk ck N tl g9 g10 g11 g12 g13 g15 s A c) (rootJ gk ck N tl g9 g10 g11 g12 g13 g15 s' A' c') ∧ flR s 0 0 = (if b then some s' else none) ∧ (∀ a, A' = some a → ∃ a0, A = some a0 ∧ a.block = a0.block) ∧ (∀ W, Rd W A (fl s.ns) → Rd W A' (fl s'.ns)) ∧ s'.ns.length ≤ c' ∧ s'.ns.length ≤ s.ns.length  := by
  obtain ⟨FF, hFF⟩ : ∃ FF : Nat → Prop, FF = (fun b => b ∈ (rootJ gk ck N tl g9 g10 g11 g12 g13 g15 s A c).fp) := ⟨_, rfl⟩
  have M0 : Mem w w FF [rootJ gk ck N tl g9 g10 g11 g12 g13 g15 s A c] := by rw [hFF]; exact Mem.begin hR
  replace M0 := M0.openS.openS.openS.openS.openS.openS
  replace hA : s.ns ≠ [] → ∀ a, A = some a → ¬ FF a.block := by rw [hFF]; exact hA
  refine Gives.enter (n := 15) Tryd.func72 rfl Tryd.ntmps72 rfl (env := [(0, .int .i64 l), (1, .int .u64 i), (2, .pointer (some ⟨g10, 0, none⟩)), (3, .pointer (some ⟨g11, 0, none⟩))]) rfl ?_
  refine qD ?_
  refine qB ?_
  refine qE ?_
  refine WC.seq ?_
  refine qD ?_
  refine WL.ex rfl rfl rfl (Ex.load ty39 rfl (M0.cell (i := 2) (v := .slice A s.ns.length c) rfl rfl)) ?_
  refine WL.ex rfl rfl rfl (Ex.len Tryd.underlying39 rfl) ?_
  refine WL.ex rfl rfl rfl (Ex.eqI rfl rfl) ?_
  refine qE ?_
  refine WC.cond_dec rfl (fun h9 => ?_) (fun h9 => ?_)
  · have hn0 : s.ns = [] := List.length_eq_zero_iff.1 (by omega)
    have hfl : flR s 0 0 = none := by unfold flR; rw [hn0]
    refine qD ?_
    refine qB ?_
    refine qE ?_
    refine WC.ret ?_
    refine WX.ret_then (?_)
    refine WX.ret1 rfl rfl ?_
    have Mf : Mem w w FF [blk gk (fl (KS.kn (s)) ++ tl) 31, blk g9 [.slice (some ⟨gk, 0, none⟩) N ck] 39, blk g10 [.slice A (KS.ns (s)).length c] 39, blk g11 (bytesV (KS.sd (s))) 31, blk g12 [.int .i64 (KS.pa (s) : Int)] 3, blk g13 [.int .i64 (KS.pi (s) : Int)] 3, blk g15 [.int .i64 (KS.lf (s) : Int)] 3] := M0
    subst hFF
    exact ⟨s, A, c, false, rfl, Mem.toTurn (Mem.closeS (Mem.closeS (Mem.closeS (Mem.closeS (Mem.closeS (Mem.closeS Mf)))))), hfl, fun a h => ⟨a, h, rfl⟩, fun W h => h, hcap, Nat.le_refl _⟩
  · obtain ⟨x, r, hxr⟩ : ∃ x r, s.ns = x :: r := by
      cases hq : s.ns with
      | nil => rw [hq] at h9; exact absurd rfl h9
      | cons x r => exact ⟨x, r, rfl⟩
    have hx32 := hns x (by rw [hxr]; simp)
    have hfl : flR s 0 0 = some { s with sd := x, ns := r } := by unfold flR; rw [hxr]
    obtain ⟨b0, o0, hA1, _⟩ := hrd.plain (by rw [fl_len hns, hxr, List.length_cons]; omega)
    have hnn : 1 ≤ s.ns.length := by rw [hxr]; simp
    have hrl : s.ns.length - 1 = r.length := by rw [hxr]; simp
    replace hA := hA (by rw [hxr]; simp)
    subst hA1
    refine WC.skip ?_
    refine WX.next ?_
    refine WC.seq ?_
    have D6 := Keep.drew nof w
    have M6 := M0.step D6
    refine WC.draw (Keep (FP M6 [3]) w.drew) [6] (.one 0 1 (.one 1 0 (.one 2 1 (.one 3 1 (.one 4 0 (.one 5 2 (.one 6 2 .nil))))))) mixed (by kernel_rfl) (by kernel_rfl) (by kernel_rfl) (HQ.then_ HQ.body) ?_
    revert D6 M6; generalize w.drew = w6; intro D6 M6
    have B6 : Mem w6 w6 (FP M6 [3]) [_] := M6.base [3] (by decide)
    refine WP.q B6.keep rfl rfl rfl rfl (fun w' hS => Ex.load ty39 rfl (M6.fp_cell (j := 2) (v := .slice (some ⟨b0, o0, none⟩) s.ns.length c) hS rfl rfl rfl)) ?_
    refine WP.p rfl rfl rfl rfl (fun _ => Ex.ia Tryd.underlying39 sz31 rfl rfl ⟨by omega, by omega⟩) ?_
    refine WP.q B6.keep rfl rfl rfl rfl (fun w' hS => Ex.loadA ty31 rfl (l := bytesV x) (h32_len hx32) (fl_at (i := 0) (rd_out M6 hS hrd hA) hns (by rw [hxr]; rfl) (by simp))) ?_
    refine WP.q B6.keep rfl rfl rfl rfl (fun w' hS => Ex.load ty39 rfl (M6.fp_cell (j := 2) (v := .slice (some ⟨b0, o0, none⟩) s.ns.length c) hS rfl rfl rfl)) ?_
    refine WP.p rfl rfl rfl rfl (fun _ => Ex.sll (j := 1) Tryd.underlying39 sz31 rfl rfl (by decide) (by omega)) ?_
    refine WP.a0 rfl rfl rfl (Ac.stA M6 ty31 rfl rfl (vs := bytesV x) rfl (h32_len hx32) (bytesV_one _) (i := 3) rfl (by rw [h32_len hx32, h32_len hsd]; decide)) ?_; rintro v12 w12 ⟨K12, M12⟩
    have B12 := B6.turn (i := 0) rfl K12 (M12.get (i := 3) rfl) (fun b hb => .inl hb)
    refine .inr ⟨fun _ => B12.keep, ?_⟩
    try dsimp only [List.set] at M12
    rw [splice_all _ _ (by rw [h32_len hx32, h32_len hsd])] at M12
    refine WP.a0 rfl rfl rfl (Ac.st M12 ty39 rfl rfl rfl (i := 2) rfl (by simp)) ?_; rintro v13 w13 ⟨K13, M13⟩; refine .inl ⟨rfl, Keep nof w13, ?_⟩
    try dsimp only [List.set] at M13
    refine WP.nil ?_
    refine WX.next ?_
    refine qD ?_
    refine qB ?_
    refine qE ?_
    refine WC.ret ?_
    refine WX.ret1 rfl rfl ?_
    have Mf : Mem w w13 FF [blk gk (fl (KS.kn ({ s with sd := x, ns := r })) ++ tl) 31, blk g9 [.slice (some ⟨gk, 0, none⟩) N ck] 39, blk g10 [.slice (if c = 1 then some ⟨b0, o0, none⟩ else (some ⟨b0, o0, none⟩ : Option Addr).map (·.add (1 * 32))) (KS.ns ({ s with sd := x, ns := r })).length (c - 1)] 39, blk g11 (bytesV (KS.sd ({ s with sd := x, ns := r }))) 31, blk g12 [.int .i64 (KS.pa ({ s with sd := x, ns := r }) : Int)] 3, blk g13 [.int .i64 (KS.pi ({ s with sd := x, ns := r }) : Int)] 3, blk g15 [.int .i64 (KS.lf ({ s with sd := x, ns := r }) : Int)] 3] := by
      have Mz := M13
      rw [show (1 : Int).toNat = 1 from rfl, hrl] at Mz
      exact Mz
    subst hFF
    refine ⟨{ s with sd := x, ns := r }, _, _, true, rfl, Mem.toTurn (Mem.closeS (Mem.closeS (Mem.closeS (Mem.closeS (Mem.closeS (Mem.closeS Mf)))))), hfl, fun a h => ?_, fun W h => ?_, by show r.length ≤ c - 1; omega, by show r.length ≤ s.ns.length; omega⟩
    · split at h
      · exact ⟨a, h, rfl⟩
      · obtain ⟨a0, e1, e2⟩ := Option.map_eq_some_iff.1 h
        exact ⟨a0, e1, by rw [← e2, block_add]⟩
    · have h1 := h.cut (k := 1) (m := c) (sz := 32) (fun hm => by rw [fl_len hns]; omega)
      rw [hxr] at h1
      have e : (fl (x :: r)).drop (1 * 32) = fl r := by
        rw [show fl (x :: r) = bytesV x ++ fl r from rfl, show (1 : Nat) * 32 = (bytesV x).length by rw [h32_len hx32], List.drop_left]
      rw [e] at h1
      exact h1

end Go.Proofs.YtchmjpdkonfifaaDoor

set_option linter.unusedVariables false
set_option linter.unusedSimpArgs false
namespace Go.Proofs.YtchmjpdkonfifaaDoor
open Go.Sx Go.RowKit
attribute [local irreducible] Ac Ex WL WC WX WP Gives sha

/- (sponsion/multi.Bundle).Root$2 -/
theorem root2_ok (w : World) (gk ck N : Nat) (tl : List Value) (g9 g10 g11 g12 g13 g15 : Nat) (s : KS) (A : Option Addr) (c : Nat) (i : Nat) (both : Bool) (hR : (rootJ gk ck N tl g9 g10 g11 g12 g13 g15 s A c).sat w) (hN : s.kn.length = N) (h32 : ∀ a ∈ s.kn, H32 a) (hsd : H32 s.sd) (hin : s.pi + (if both = true then 2 else 1) ≤ N) (hpa : s.pa ≤ s.pi) (hN2 : N ≤ 1000) (hi : i < 18446744073709551616) (hT : Tabs w) (hFT : ∀ b ∈ (rootJ gk ck N tl g9 g10 g11 g12 g13 g15 s A c).fp, b ≠ 1 ∧ b ≠ 2) :
    Gives Tryd.prog 73 #[.int .u64 (i : Int), .bool both, .pointer (some ⟨g9, 0, none⟩), .pointer (some ⟨g13, 0, none⟩), .pointer (some ⟨g12, 0, none⟩), .pointer (some ⟨g11, 0, none⟩), .pointer (some ⟨g15, 0, none⟩)] w fun u w1 => Turn w w1 (rootJ gk ck N tl g9 g10 g11 g12 g13 g15 s A c) (rootJ gk ck N tl g9 g10 g11 g12 g13 g15 (fpR s i both) A c) := by
  obtain ⟨FF, hFF⟩ : ∃ FF : Nat → Prop, FF = (fun b => b ∈ (rootJ gk ck N tl g9 g10 g11 g12 g13 g15 s A c).fp) := ⟨_, rfl⟩
  have M0 : Mem w w FF [rootJ gk ck N tl g9 g10 g11 g12 g13 g15 s A c] := by rw [hFF]; exact Mem.begin hR
  replace M0 := M0.openS.openS.openS.openS.openS.openS
  have hq1 : 1 ≤ (if both = true then 2 else 1) := by cases both <;> decide
  have hx32 : H32 (s.kn.getD s.pi z32) := getD_32 h32 (by omega)
  refine Gives.enter (n := 51) Tryd.func73 rfl Tryd.ntmps73 rfl (env := [(0, .int .u64 (i : Int)), (1, .bool both), (2, .pointer (some ⟨g9, 0, none⟩)), (3, .pointer (some ⟨g13, 0, none⟩)), (4, .pointer (some ⟨g12, 0, none⟩)), (5, .pointer (some ⟨g11, 0, none⟩)), (6, .pointer (some ⟨g15, 0, none⟩))]) rfl ?_
  refine qD ?_
  refine WL.ex rfl rfl rfl (Ex.load ty39 rfl (M0.cell (i := 1) (v := .slice (some ⟨gk, 0, none⟩) N ck) rfl rfl)) ?_
  refine WL.ex rfl rfl rfl (Ex.load ty3 rfl (M0.cell (i := 5) (v := .int .i64 ((s.pi : Nat) : Int)) rfl rfl)) ?_
  refine WL.ex rfl rfl rfl (Ex.ia Tryd.underlying39 sz31 rfl rfl ⟨by omega, by omega⟩) ?_
  refine WL.ex rfl rfl rfl (Ex.loadA ty31 rfl (l := bytesV (s.kn.getD s.pi z32)) (h32_len hx32) (M0.rdt (i := 0) rfl (kn_at h32 (getD_get (by omega)) (by simp)))) ?_
  refine WL.ac rfl rfl rfl (Ac.alloc M0 (l := bytesV (List.replicate 32 0)) (by kernel_rfl)) ?_; rintro v5 w5 ⟨gx, rfl, hg5, K5, M5⟩
  refine WL.ac0 rfl rfl (Ac.stA M5 ty31 rfl rfl rfl (h32_len (by first | assumption | exact h32_0)) (bytesV_one _) (i := 0) rfl (by first | (rw [h32_len (by first | assumption | exact h32_0), h32_len (by first | assumption | exact h32_0)]; decide) | (rw [h32_len (by first | assumption | exact h32_0)]; decide) | rw [h32_len (by first | assumption | exact h32_0)])) ?_; rintro v6 w6 ⟨K6, M6⟩
  try dsimp only [List.set] at M6
  rw [splice_all _ _ (by first | rw [h32_len (by first | assumption | exact h32_0), h32_len (by first | assumption | exact h32_0)] | rw [h32_len (by first | assumption | exact h32_0)])] at M6
  refine qE ?_
  refine qD ?_
  refine WL.ex rfl rfl rfl (Ex.load ty3 rfl (M6.cell (i := 6) (v := .int .i64 ((s.pi : Nat) : Int)) rfl rfl)) ?_
  refine WL.ex rfl rfl rfl (Ex.add rfl rfl (c := ((s.pi + 1 : Nat) : Int)) (wrapN (by omega) (by omega))) ?_
  refine WL.ac0 rfl rfl (Ac.st M6 ty3 rfl rfl rfl (i := 6) rfl (by simp)) ?_; rintro v9 w9 ⟨K9, M9⟩
  try dsimp only [List.set] at M9
  refine qE ?_
  refine WC.cut (σ := Unit) (fun _u => [(3, .pointer (some ⟨g13, 0, none⟩)), (4, .pointer (some ⟨g12, 0, none⟩)), (6, .pointer (some ⟨g15, 0, none⟩))]) (fun _u wr => Mem w wr FF [blk gk (fl (s.kn.set s.pa (fpY s i both)) ++ tl) 31, blk g9 [.slice (some ⟨gk, 0, none⟩) N ck] 39, blk g10 [.slice A s.ns.length c] 39, blk g11 (bytesV s.sd) 31, blk g12 [.int .i64 ((s.pa : Nat) : Int)] 3, blk g13 [.int .i64 ((fpI s both : Nat) : Int)] 3, blk g15 [.int .i64 ((s.lf : Nat) : Int)] 3]) ?_ ?_
  ·
    refine WC.block ?_
    refine qD ?_
    refine qA ?_
    refine qB ?_
    refine qE ?_
    refine WC.cond rfl (fun h22 => ?_) (fun h22 => ?_)
    · subst h22
      have hin2 : s.pi + 2 ≤ N := by simpa using hin
      have hy32 : H32 (s.kn.getD (s.pi + 1) z32) := getD_32 h32 (by omega)
      have hy : fpY s i true = dNode (s.kn.getD s.pi z32) (s.kn.getD (s.pi + 1) z32) := by rw [fpY, if_pos rfl]
      refine WC.seq ?_
      refine WC.draw (Keep nof w9.drew) [9] (.one 0 1 (.one 1 1 (.one 2 1 (.one 3 1 (.one 4 1 (.one 5 0 (.one 6 1 (.one 7 2 (.one 8 0 (.one 9 2 .nil)))))))))) mixed (by kernel_rfl) (by kernel_rfl) (by kernel_rfl) (HQ.then_ (HQ.block (HQ.then_ HQ.body))) ?_
      obtain ⟨w12, hw12⟩ : ∃ v, v = w9.drew := ⟨_, rfl⟩
      have D12 : Keep nof w9 w12 := by rw [hw12]; exact Keep.drew _ _
      have M12 := M9.step D12
      rw [← hw12]; clear hw12
      refine WP.q (Keep.refl _ _) rfl rfl rfl rfl (fun w' hS => Ex.load ty39 rfl (hS.cell (M12.cell (i := 2) (v := .slice (some ⟨gk, 0, none⟩) N ck) rfl rfl) (fun f => f))) ?_
      refine WP.q (Keep.refl _ _) rfl rfl rfl rfl (fun w' hS => Ex.load ty3 rfl (hS.cell (M12.cell (i := 5) (v := .int .i64 ((s.pa : Nat) : Int)) rfl rfl) (fun f => f))) ?_
      refine WP.q (Keep.refl _ _) rfl rfl rfl rfl (fun w' hS => Ex.loadA ty31 rfl (h32_len (by first | assumption | exact h32_0)) ((M12.rdw (i := 0) rfl).keep0 hS)) ?_
      refine WP.q (Keep.refl _ _) rfl rfl rfl rfl (fun w' hS => Ex.load ty39 rfl (hS.cell (M12.cell (i := 2) (v := .slice (some ⟨gk, 0, none⟩) N ck) rfl rfl) (fun f => f))) ?_
      refine WP.q (Keep.refl _ _) rfl rfl rfl rfl (fun w' hS => Ex.load ty3 rfl (hS.cell (M12.cell (i := 6) (v := .int .i64 ((s.pi + 1 : Nat) : Int)) rfl rfl) (fun f => f))) ?_
      refine WP.p rfl rfl rfl rfl (fun _ => Ex.ia Tryd.underlying39 sz31 rfl rfl ⟨by omega, by omega⟩) ?_
      refine WP.q (Keep.refl _ _) rfl rfl rfl rfl (fun w' hS => Ex.loadA ty31 rfl (l := bytesV (s.kn.getD (s.pi + 1) z32)) (h32_len hy32) ((M12.rdt (i := 1) rfl (kn_at (i := s.pi + 1) h32 (getD_get (by omega)) (by simp))).keep0 hS)) ?_
      refine WP.as rfl rfl rfl rfl (Ac.call rfl Tryd.func74 nm74 rfl (node_ok w12 _ _ hx32 hy32 (by have k := M12.keep; rw [hFF] at k; exact hT.keepF k hFT))) ?_; rintro v20 w20 ⟨rfl, K20⟩
      refine ⟨Keep nof w20, fun u h => K20.trans h, Keep.refl _ _, ?_⟩
      have M20 := M12.step K20
      refine WP.p rfl rfl rfl rfl (fun _ => Ex.ia Tryd.underlying39 sz31 rfl rfl ⟨by omega, by omega⟩) ?_
      refine WP.a0 rfl rfl rfl (Ac.stA M20 ty31 rfl rfl rfl (h32_len (dNode_len _ _)) (bytesV_one _) (i := 1) rfl (by rw [List.length_append, fl_len h32, h32_len (dNode_len _ _), Int.toNat_natCast]; omega)) ?_; rintro v22 w22 ⟨K22, M22⟩; refine .inl ⟨rfl, Keep nof w22, ?_⟩
      try dsimp only [List.set] at M22
      rw [kn_set (i := s.pa) h32 (dNode_len _ _) (by omega) (by simp), ← hy] at M22
      refine WP.nil ?_
      refine WX.next ?_
      refine WC.region ?_
      refine WL.ex rfl rfl rfl (Ex.load ty3 rfl (M22.cell (i := 6) (v := .int .i64 ((s.pi + 1 : Nat) : Int)) rfl rfl)) ?_
      refine WL.ex rfl rfl rfl (Ex.add rfl rfl (c := ((s.pi + 1 + 1 : Nat) : Int)) (wrapN (by omega) (by omega))) ?_
      refine WL.ac0 rfl rfl (Ac.st M22 ty3 rfl rfl rfl (i := 6) rfl (by simp)) ?_; rintro v25 w25 ⟨K25, M25⟩
      try dsimp only [List.set] at M25
      refine WL.nil ?_
      refine WX.normal_block (?_)
      refine WX.join (()) ?_ (.cons rfl (.cons rfl (.cons rfl (.nil))))
      have Mq : Mem w _ FF [blk gk (fl (s.kn.set s.pa (fpY s i true)) ++ tl) 31, blk g9 [.slice (some ⟨gk, 0, none⟩) N ck] 39, blk g10 [.slice A s.ns.length c] 39, blk g11 (bytesV s.sd) 31, blk g12 [.int .i64 ((s.pa : Nat) : Int)] 3, blk g13 [.int .i64 ((fpI s true : Nat) : Int)] 3, blk g15 [.int .i64 ((s.lf : Nat) : Int)] 3] := (Mem.pick M25 [1, 2, 3, 4, 5, 6, 7] (by decide) rfl)
      exact Mq
    · subst h22
      refine qD ?_
      refine qA ?_
      refine WL.ex rfl rfl rfl (Ex.rem rfl rfl (by omega) (c := ((i % 2 : Nat) : Int)) (by rw [Int.tmod_eq_emod_of_nonneg (by omega)]; omega)) ?_
      refine WL.ex rfl rfl rfl (Ex.eqI rfl rfl) ?_
      refine qB ?_
      refine qE ?_
      refine WC.cond_dec rfl (fun h35 => ?_) (fun h35 => ?_)
      · have hy : fpY s i false = dNode (s.kn.getD s.pi z32) s.sd := by rw [fpY, if_neg (by decide), cmb, if_pos (by omega)]
        refine WC.draw (Keep nof w9.drew) [6] (.one 0 1 (.one 1 1 (.one 2 1 (.one 3 1 (.one 4 2 (.one 5 0 (.one 6 2 .nil))))))) mixed (by kernel_rfl) (by kernel_rfl) (by kernel_rfl) (HQ.block (HQ.then_ HQ.body)) ?_
        obtain ⟨w30, hw30⟩ : ∃ v, v = w9.drew := ⟨_, rfl⟩
        have D30 : Keep nof w9 w30 := by rw [hw30]; exact Keep.drew _ _
        have M30 := M9.step D30
        rw [← hw30]; clear hw30
        refine WP.q (Keep.refl _ _) rfl rfl rfl rfl (fun w' hS => Ex.load ty39 rfl (hS.cell (M30.cell (i := 2) (v := .slice (some ⟨gk, 0, none⟩) N ck) rfl rfl) (fun f => f))) ?_
        refine WP.q (Keep.refl _ _) rfl rfl rfl rfl (fun w' hS => Ex.load ty3 rfl (hS.cell (M30.cell (i := 5) (v := .int .i64 ((s.pa : Nat) : Int)) rfl rfl) (fun f => f))) ?_
        refine WP.q (Keep.refl _ _) rfl rfl rfl rfl (fun w' hS => Ex.loadA ty31 rfl (h32_len (by first | assumption | exact h32_0)) ((M30.rdw (i := 0) rfl).keep0 hS)) ?_
        refine WP.q (Keep.refl _ _) rfl rfl rfl rfl (fun w' hS => Ex.loadA ty31 rfl (l := bytesV s.sd) (h32_len hsd) ((M30.rdw (i := 4) rfl).keep0 hS)) ?_
        refine WP.as rfl rfl rfl rfl (Ac.call rfl Tryd.func74 nm74 rfl (node_ok w30 _ _ hx32 hsd (by have k := M30.keep; rw [hFF] at k; exact hT.keepF k hFT))) ?_; rintro v35 w35 ⟨rfl, K35⟩
        refine ⟨Keep nof w35, fun u h => K35.trans h, Keep.refl _ _, ?_⟩
        have M35 := M30.step K35
        refine WP.p rfl rfl rfl rfl (fun _ => Ex.ia Tryd.underlying39 sz31 rfl rfl ⟨by omega, by omega⟩) ?_
        refine WP.a0 rfl rfl rfl (Ac.stA M35 ty31 rfl rfl rfl (h32_len (dNode_len _ _)) (bytesV_one _) (i := 1) rfl (by rw [List.length_append, fl_len h32, h32_len (dNode_len _ _), Int.toNat_natCast]; omega)) ?_; rintro v37 w37 ⟨K37, M37⟩; refine .inl ⟨rfl, Keep nof w37, ?_⟩
        try dsimp only [List.set] at M37
        rw [kn_set (i := s.pa) h32 (dNode_len _ _) (by omega) (by simp), ← hy] at M37
        refine WP.nil ?_
        refine WX.normal_block (?_)
        refine WX.join (()) ?_ (.cons rfl (.cons rfl (.cons rfl (.nil))))
        have Mq : Mem w _ FF [blk gk (fl (s.kn.set s.pa (fpY s i false)) ++ tl) 31, blk g9 [.slice (some ⟨gk, 0, none⟩) N ck] 39, blk g10 [.slice A s.ns.length c] 39, blk g11 (bytesV s.sd) 31, blk g12 [.int .i64 ((s.pa : Nat) : Int)] 3, blk g13 [.int .i64 ((fpI s false : Nat) : Int)] 3, blk g15 [.int .i64 ((s.lf : Nat) : Int)] 3] := (Mem.pick M37 [1, 2, 3, 4, 5, 6, 7] (by decide) rfl)
        exact Mq
      · have hy : fpY s i false = dNode s.sd (s.kn.getD s.pi z32) := by rw [fpY, if_neg (by decide), cmb, if_neg (by omega)]
        refine WC.draw (Keep nof w9.drew) [6] (.one 0 1 (.one 1 1 (.one 2 1 (.one 3 1 (.one 4 2 (.one 5 0 (.one 6 2 .nil))))))) mixed (by kernel_rfl) (by kernel_rfl) (by kernel_rfl) (HQ.block (HQ.then_ HQ.body)) ?_
        obtain ⟨w38, hw38⟩ : ∃ v, v = w9.drew := ⟨_, rfl⟩
        have D38 : Keep nof w9 w38 := by rw [hw38]; exact Keep.drew _ _
        have M38 := M9.step D38
        rw [← hw38]; clear hw38
        refine WP.q (Keep.refl _ _) rfl rfl rfl rfl (fun w' hS => Ex.load ty39 rfl (hS.cell (M38.cell (i := 2) (v := .slice (some ⟨gk, 0, none⟩) N ck) rfl rfl) (fun f => f))) ?_
        refine WP.q (Keep.refl _ _) rfl rfl rfl rfl (fun w' hS => Ex.load ty3 rfl (hS.cell (M38.cell (i := 5) (v := .int .i64 ((s.pa : Nat) : Int)) rfl rfl) (fun f => f))) ?_
        refine WP.q (Keep.refl _ _) rfl rfl rfl rfl (fun w' hS => Ex.loadA ty31 rfl (l := bytesV s.sd) (h32_len hsd) ((M38.rdw (i := 4) rfl).keep0 hS)) ?_
        refine WP.q (Keep.refl _ _) rfl rfl rfl rfl (fun w' hS => Ex.loadA ty31 rfl (h32_len (by first | assumption | exact h32_0)) ((M38.rdw (i := 0) rfl).keep0 hS)) ?_
        refine WP.as rfl rfl rfl rfl (Ac.call rfl Tryd.func74 nm74 rfl (node_ok w38 _ _ hsd hx32 (by have k := M38.keep; rw [hFF] at k; exact hT.keepF k hFT))) ?_; rintro v43 w43 ⟨rfl, K43⟩
        refine ⟨Keep nof w43, fun u h => K43.trans h, Keep.refl _ _, ?_⟩
        have M43 := M38.step K43
        refine WP.p rfl rfl rfl rfl (fun _ => Ex.ia Tryd.underlying39 sz31 rfl rfl ⟨by omega, by omega⟩) ?_
        refine WP.a0 rfl rfl rfl (Ac.stA M43 ty31 rfl rfl rfl (h32_len (dNode_len _ _)) (bytesV_one _) (i := 1) rfl (by rw [List.length_append, fl_len h32, h32_len (dNode_len _ _), Int.toNat_natCast]; omega)) ?_; rintro v45 w45 ⟨K45, M45⟩; refine .inl ⟨rfl, Keep nof w45, ?_⟩
        try dsimp only [List.set] at M45
        rw [kn_set (i := s.pa) h32 (dNode_len _ _) (by omega) (by simp), ← hy] at M45
        refine WP.nil ?_
        refine WX.normal_block (?_)
        refine WX.join (()) ?_ (.cons rfl (.cons rfl (.cons rfl (.nil))))
        have Mq : Mem w _ FF [blk gk (fl (s.kn.set s.pa (fpY s i false)) ++ tl) 31, blk g9 [.slice (some ⟨gk, 0, none⟩) N ck] 39, blk g10 [.slice A s.ns.length c] 39, blk g11 (bytesV s.sd) 31, blk g12 [.int .i64 ((s.pa : Nat) : Int)] 3, blk g13 [.int .i64 ((fpI s false : Nat) : Int)] 3, blk g15 [.int .i64 ((s.lf : Nat) : Int)] 3] := (Mem.pick M45 [1, 2, 3, 4, 5, 6, 7] (by decide) rfl)
        exact Mq
  · rintro _u w46 M46
    refine qD ?_
    refine WL.ex rfl rfl rfl (Ex.load ty3 rfl (M46.cell (i := 4) (v := .int .i64 ((s.pa : Nat) : Int)) rfl rfl)) ?_
    refine WL.ex rfl rfl rfl (Ex.add rfl rfl (c := ((s.pa + 1 : Nat) : Int)) (wrapN (by omega) (by omega))) ?_
    refine WL.ac0 rfl rfl (Ac.st M46 ty3 rfl rfl rfl (i := 4) rfl (by simp)) ?_; rintro v49 w49 ⟨K49, M49⟩
    try dsimp only [List.set] at M49
    refine qE ?_
    refine qD ?_
    refine WL.ex rfl rfl rfl (Ex.load ty3 rfl (M49.cell (i := 5) (v := .int .i64 ((fpI s both : Nat) : Int)) rfl rfl)) ?_
    refine WL.ex rfl rfl rfl (Ex.load ty3 rfl (M49.cell (i := 6) (v := .int .i64 ((s.lf : Nat) : Int)) rfl rfl)) ?_
    refine WL.ex rfl rfl rfl (Ex.eqI rfl rfl) ?_
    refine qE ?_
    refine WC.cond_dec rfl (fun h49 => ?_) (fun h49 => ?_)
    · have e : fpR s i both = { s with kn := s.kn.set s.pa (fpY s i both), lf := s.pa + 1, pa := 0, pi := 0 } := if_pos (by omega)
      refine WC.region ?_
      refine WL.ex rfl rfl rfl (Ex.load ty3 rfl (M49.cell (i := 4) (v := .int .i64 ((s.pa + 1 : Nat) : Int)) rfl rfl)) ?_
      refine WL.ac0 rfl rfl (Ac.st M49 ty3 rfl rfl rfl (i := 6) rfl (by simp)) ?_; rintro v54 w54 ⟨K54, M54⟩
      try dsimp only [List.set] at M54
      refine WL.ac0 rfl rfl (Ac.st M54 ty3 rfl rfl rfl (i := 4) rfl (by simp)) ?_; rintro v55 w55 ⟨K55, M55⟩
      try dsimp only [List.set] at M55
      refine WL.ac0 rfl rfl (Ac.st M55 ty3 rfl rfl rfl (i := 5) rfl (by simp)) ?_; rintro v56 w56 ⟨K56, M56⟩
      try dsimp only [List.set] at M56
      refine WL.nil ?_
      refine WX.end0 rfl ?_
      have Mf : Mem w w56 FF [blk gk (fl (KS.kn ({ s with kn := s.kn.set s.pa (fpY s i both), lf := s.pa + 1, pa := 0, pi := 0 })) ++ tl) 31, blk g9 [.slice (some ⟨gk, 0, none⟩) N ck] 39, blk g10 [.slice A (KS.ns ({ s with kn := s.kn.set s.pa (fpY s i both), lf := s.pa + 1, pa := 0, pi := 0 })).length c] 39, blk g11 (bytesV (KS.sd ({ s with kn := s.kn.set s.pa (fpY s i both), lf := s.pa + 1, pa := 0, pi := 0 }))) 31, blk g12 [.int .i64 (KS.pa ({ s with kn := s.kn.set s.pa (fpY s i both), lf := s.pa + 1, pa := 0, pi := 0 }) : Int)] 3, blk g13 [.int .i64 (KS.pi ({ s with kn := s.kn.set s.pa (fpY s i both), lf := s.pa + 1, pa := 0, pi := 0 }) : Int)] 3, blk g15 [.int .i64 (KS.lf ({ s with kn := s.kn.set s.pa (fpY s i both), lf := s.pa + 1, pa := 0, pi := 0 }) : Int)] 3] := M56
      subst hFF
      rw [e]
      exact Mem.toTurn (Mem.closeS (Mem.closeS (Mem.closeS (Mem.closeS (Mem.closeS (Mem.closeS Mf))))))
    · have e : fpR s i both = { s with kn := s.kn.set s.pa (fpY s i both), pa := s.pa + 1, pi := fpI s both } := if_neg (by omega)
      refine WC.skip ?_
      refine WX.end0 rfl ?_
      have Mf : Mem w w49 FF [blk gk (fl (KS.kn ({ s with kn := s.kn.set s.pa (fpY s i both), pa := s.pa + 1, pi := fpI s both })) ++ tl) 31, blk g9 [.slice (some ⟨gk, 0, none⟩) N ck] 39, blk g10 [.slice A (KS.ns ({ s with kn := s.kn.set s.pa (fpY s i both), pa := s.pa + 1, pi := fpI s both })).length c] 39, blk g11 (bytesV (KS.sd ({ s with kn := s.kn.set s.pa (fpY s i both), pa := s.pa + 1, pi := fpI s both }))) 31, blk g12 [.int .i64 (KS.pa ({ s with kn := s.kn.set s.pa (fpY s i both), pa := s.pa + 1, pi := fpI s both }) : Int)] 3, blk g13 [.int .i64 (KS.pi ({ s with kn := s.kn.set s.pa (fpY s i both), pa := s.pa + 1, pi := fpI s both }) : Int)] 3, blk g15 [.int .i64 (KS.lf ({ s with kn := s.kn.set s.pa (fpY s i both), pa := s.pa + 1, pi := fpI s both }) : Int)] 3] := M49
      subst hFF
      rw [e]
      exact Mem.toTurn (Mem.closeS (Mem.closeS (Mem.closeS (Mem.closeS (Mem.closeS (Mem.closeS Mf))))))

end Go.Proofs.YtchmjpdkonfifaaDoor

set_option linter.unusedVariables false
set_option linter.unusedSimpArgs false
namespace Go.Proofs.YtchmjpdkonfifaaDoor
open Go.Sx Go.RowKit
attribute [local irreducible] Ac Ex WL WC WX WP Gives sha

theorem wrong_0 {d : Int} {xs : List Nat} {z : Int} (h : wrongF d xs z = 0) : (0 ≤ d ∧ d ≤ 32) ∧ 0 < xs.length ∧ (xs.Pairwise (· < ·) ∧ z = xs.length) ∧ ¬ (xs.any fun x => decide (2 ^ d.toNat ≤ x)) = true := by
  unfold wrongF at h
  by_cases h1 : d < 0 ∨ 32 < d
  · rw [if_pos h1] at h; cases h
  · rw [if_neg h1] at h
    by_cases h2 : xs.length = 0
    · rw [if_pos h2] at h; cases h
    · rw [if_neg h2] at h
      by_cases h3 : xs.Pairwise (· < ·) ∧ z = xs.length
      · rw [if_neg (not_not_intro h3)] at h
        by_cases h4 : (xs.any fun x => decide (2 ^ d.toNat ≤ x)) = true
        · rw [if_pos h4] at h; cases h
        · exact ⟨by omega, by omega, h3, h4⟩
      · rw [if_pos h3] at h; cases h
theorem root_wrong {d : Int} {xs : List Nat} {ns ls : Hs} (h : wrongF d xs ls.length ≠ 0) : rootF d xs ns ls = (z32, wrongF d xs ls.length) := by
  unfold wrongF at h ⊢
  unfold rootF
  by_cases h1 : d < 0 ∨ 32 < d
  · rw [if_pos h1, if_pos h1]
  · rw [if_neg h1] at h ⊢
    rw [if_neg h1]
    by_cases h2 : xs.length = 0
    · rw [if_pos h2, if_pos h2]
    · rw [if_neg h2] at h ⊢
      rw [if_neg h2]
      have e : (xs.Pairwise (· < ·) ∧ ((ls.length : Nat) : Int) = (xs.length : Int)) ↔ (xs.Pairwise (· < ·) ∧ ls.length = xs.length) := by
        constructor
        · rintro ⟨a, b⟩; exact ⟨a, by omega⟩
        · rintro ⟨a, b⟩; exact ⟨a, by omega⟩
      by_cases h3 : xs.Pairwise (· < ·) ∧ ls.length = xs.length
      · rw [if_neg (not_not_intro (e.2 h3))] at h ⊢
        rw [if_neg (not_not_intro h3)]
        by_cases h4 : (xs.any fun x => decide (2 ^ d.toNat ≤ x)) = true
        · rw [if_pos h4, if_pos h4]
        · rw [if_neg h4] at h; exact absurd rfl h
      · rw [if_pos (fun q => h3 (e.1 q)), if_pos h3]
theorem root_right {d : Int} {xs : List Nat} {ns ls : Hs} (h : wrongF d xs ls.length = 0) : rootF d xs ns ls = match rtop d.toNat (xs.zip ls) ns with
  | none => (z32, 4)
  | some (o, n2) => if n2 = [] then ((o.map (·.2)).getD 0 z32, 0) else (z32, 5) := by
  obtain ⟨h1, h2, h3, h4⟩ := wrong_0 h
  rw [rootF, if_neg (by omega), if_neg (by omega), if_neg (not_not_intro ⟨h3.1, by have := h3.2; omega⟩), if_neg h4] <;> cases rtop d.toNat (xs.zip ls) ns <;> rfl
theorem root_none {d : Int} {xs : List Nat} {ns ls : Hs} (h : wrongF d xs ls.length = 0) (e : rtop d.toNat (xs.zip ls) ns = none) : rootF d xs ns ls = (z32, 4) := by rw [root_right h, e]
theorem root_long {d : Int} {xs : List Nat} {ns ls : Hs} {o : List Kn} {n2 : Hs} (h : wrongF d xs ls.length = 0) (e : rtop d.toNat (xs.zip ls) ns = some (o, n2)) (hn : n2 ≠ []) : rootF d xs ns ls = (z32, 5) := by
  rw [root_right h, e]
  exact if_neg hn
theorem root_some {d : Int} {xs : List Nat} {ns ls : Hs} {o : List Kn} (h : wrongF d xs ls.length = 0) (e : rtop d.toNat (xs.zip ls) ns = some (o, [])) : rootF d xs ns ls = ((o.map (·.2)).getD 0 z32, 0) := by
  rw [root_right h, e]
  exact if_pos rfl
theorem zip_snd : ∀ (zs : List Nat) (xs : Hs), xs.length = zs.length → (zs.zip xs).map (·.2) = xs
  | [], [], _ => rfl
  | [], x :: xs, h => by simp at h
  | z :: zs, [], h => by simp at h
  | z :: zs, x :: xs, h => by rw [List.zip_cons_cons, List.map_cons, zip_snd zs xs (by simpa using h)]
theorem root_start {ls ns : Hs} (h : ls ≠ []) : St2 ⟨ls, ns, z32, 0, 0, ls.length⟩ [] ls :=
  ⟨rfl, fun _ => ⟨by rw [List.drop_zero, List.take_length], rfl, by simp, Nat.le_refl _, Nat.le_refl _⟩, fun e => absurd e h⟩
theorem St2.first {t : KS} {xs : Hs} (h : St2 t [] xs) (hp : t.pi = 0) (hx : xs ≠ []) : t.kn.getD 0 z32 = xs.getD 0 z32 ∧ 0 < t.kn.length := by
  obtain ⟨h1, h2, h3, h4, h5⟩ := h.rd hx
  rw [hp, List.drop_zero] at h1
  have hl := List.length_pos_iff.2 hx
  refine ⟨?_, by omega⟩
  rw [← h1, List.getD_eq_getElem?_getD, List.getD_eq_getElem?_getD, List.getElem?_take_of_lt hl]
theorem fpR_ns (t : KS) (i : Nat) (b : Bool) : (fpR t i b).ns = t.ns := by unfold fpR; split <;> rfl
theorem Turn.pure {w w' : World} {r r' : Res} {p p' : Prop} (h : Turn w w' r r') (hp : p') : Turn w w' (sep r (pureR p)) (sep r' (pureR p')) :=
  ⟨h.keep.mono fun k _ hk => List.mem_append_left _ hk, ⟨h.sat, hp, fun b _ hb => by simp [pureR] at hb⟩, fun b hb => by
    rcases List.mem_append.1 hb with hb | hb
    · rcases h.fresh b hb with h1 | h1
      · exact .inl (List.mem_append_left _ h1)
      · exact .inr h1
    · simp [pureR] at hb⟩
theorem rdFar {w w1 : World} {rs : List Res} {r : Res} (M : Mem w w1 nof rs) {i : Nat} (hi : rs[i]? = some r) {B : Option Addr} {xs : List Value} (hr : Rd w B xs) (hx : 0 < xs.length) : ∀ b, B = some b → b.block ∉ r.fp := by
  intro b hb hm
  obtain ⟨g, o, h1, h2, _⟩ := hr.plain hx
  rw [hb] at h1
  injection h1 with h1
  subst h1
  rcases M.own r (List.mem_of_getElem? hi) _ hm with h | h
  · dsimp only at h
    omega
  · exact h
/-- What is known of the nodes' slice on the way. -/
abbrev NdP (B : Option Addr) (ns : Hs) (t : KS) (A : Option Addr) (c : Nat) : Prop := (∀ a, A = some a → ∃ a0, B = some a0 ∧ a.block = a0.block) ∧ (∀ W, Rd W B (fl ns) → Rd W A (fl t.ns)) ∧ t.ns.length ≤ c ∧ t.ns.length ≤ ns.length
theorem u64V_pos {xs : List Nat} (h : 0 < xs.length) : 0 < (u64V xs).length := by simpa using h

/- (sponsion/multi.Bundle).Root -/
theorem root_ok (w : World) (A B C : Option Addr) (c cb cl : Nat) (xs : List Nat) (ns ls : Hs) (d : Int) (hr : Rd w A (u64V xs)) (hx : ∀ k, gv xs k < 18446744073709551616) (hn50 : xs.length < 50) (hrn : Rd w B (fl ns)) (hns : ∀ a ∈ ns, H32 a) (hnl : ns.length ≤ 1000) (hcb : ns.length ≤ cb) (hrl : Rd w C (fl ls)) (hls : ∀ a ∈ ls, H32 a) (hll : ls.length ≤ 1000) (hT : Tabs w) :
    Gives Tryd.prog 37 #[.agg #[.slice A xs.length c, .slice B (List.length ns) cb], .int .i64 d, .slice C (List.length ls) cl] w fun u w1 => u = .tuple #[.agg (bytesV (rootF d xs ns ls).1).toArray, .int .i64 (rootF d xs ns ls).2] ∧ Keep nof w w1 := by
  have M0 := Mem.start w nof
  refine Gives.enter (n := 52) Tryd.func37 rfl Tryd.ntmps37 rfl (env := [(0, .agg #[.slice A xs.length c, .slice B (List.length ns) cb]), (1, .int .i64 d), (2, .slice C (List.length ls) cl)]) rfl ?_
  refine qD ?_
  refine WL.ac rfl rfl rfl (Ac.box M0 rfl (l := [.slice A xs.length c, .slice B (List.length ns) cb]) rfl) ?_; rintro v1 w1 ⟨gb, rfl, hg1, K1, M1⟩
  refine WL.ac rfl rfl rfl (Ac.alloc M1 (l := bytesV z32) (by kernel_rfl)) ?_; rintro v2 w2 ⟨gr, rfl, hg2, K2, M2⟩
  refine qB ?_
  refine qE ?_
  refine WC.seq ?_
  refine qD ?_
  refine WL.ex rfl rfl rfl (Ex.loadA ty72 rfl (l := [.slice A xs.length c, .slice B (List.length ns) cb]) rfl (M2.rdw (i := 1) rfl)) ?_
  refine qA ?_
  refine qA ?_
  refine WL.ex rfl rfl rfl (Ex.len Tryd.underlying39 rfl) ?_
  refine WL.ac rfl rfl rfl (Ac.call rfl Tryd.func70 nm70 rfl (wrong_ok w2 A B c (List.length ns) cb xs d (List.length ls) (M2.rd hr) hx hn50)) ?_; rintro v8 w8 ⟨rfl, K8⟩
  have M8 := M2.step K8
  refine qB ?_
  refine qE ?_
  refine qD ?_
  refine qA ?_
  refine WL.ex rfl rfl rfl (Ex.neI rfl rfl) ?_
  refine qE ?_
  refine WC.cond rfl (fun h23 => ?_) (fun h23 => ?_)
  · have hw0 : wrongF d xs (List.length ls) ≠ 0 := by simpa using h23
    have hrf := root_wrong (ns := ns) hw0
    refine qD ?_
    refine WL.ex rfl rfl rfl (Ex.bld bd31 (parts := []) (l := bytesV z32) rfl rfl rfl rfl) ?_
    refine qA ?_
    refine WL.ac0 rfl rfl (Ac.stA M8 ty31 rfl rfl (vs := bytesV z32) rfl (h32_len h32_0) (bytesV_one _) (i := 0) rfl (by rw [h32_len h32_0]; decide)) ?_; rintro v14 w14 ⟨K14, M14⟩
    try dsimp only [List.set] at M14
    rw [splice_all _ _ rfl] at M14
    refine qB ?_
    refine qE ?_
    refine WC.ret ?_
    refine WX.ret_then (?_)
    refine WX.retn rfl (.cell rfl (run_loadVarA ty31 (h32_len (by first | assumption | exact h32_0)) (M14.rdw (i := 0) rfl)) (.tmp rfl .nil)) rfl ?_
    rw [hrf]
    exact ⟨rfl, M14.keep⟩
  · have hw0 : wrongF d xs (List.length ls) = 0 := by simpa using h23
    obtain ⟨hd2, hxp, hpw, hany⟩ := wrong_0 hw0
    have hll2 : ls.length = xs.length := by have := hpw.2; omega
    obtain ⟨dn, rfl⟩ : ∃ dn : Nat, d = (dn : Int) := ⟨d.toNat, by omega⟩
    refine WC.skip ?_
    refine WX.next ?_
    refine WC.cut (σ := Option Addr × Nat × Nat × Nat) (fun s => [(1, .int .i64 (dn : Int)), (3, .pointer (some ⟨gb, 0, none⟩)), (6, .pointer (some ⟨gr, 0, none⟩)), (9, .pointer (some ⟨s.2.2.1, 0, none⟩)), (10, .pointer (some ⟨s.2.2.2, 0, none⟩))]) (fun s wr => Mem w wr nof [row (.slice s.1 (List.length ls) s.2.1) 31 32 (List.length ls) (fl ls), blk s.2.2.1 [.slice s.1 (List.length ls) s.2.1] 39, blk s.2.2.2 [.slice B (List.length ns) cb] 39, blk gb [.slice A xs.length c, .slice B (List.length ns) cb] 72, blk gr (bytesV z32) 31]) ?_ ?_
    ·
      have D16 := Keep.drew nof w8
      have M16 := M8.step D16
      refine WC.draw3 (Keep (FP M16 []) w8.drew) [7] (.one 0 0 (.one 2 0 (.one 3 1 (.three 1 (.two 4 (.one 5 2 (.one 6 2 (.one 7 2 .nil))) 5 (.one 4 2 (.one 6 2 (.one 7 2 .nil)))) 4 (.two 1 (.one 5 2 (.one 6 2 (.one 7 2 .nil))) 5 (.one 1 2 (.one 6 2 (.one 7 2 .nil)))) 5 (.two 1 (.one 4 2 (.one 6 2 (.one 7 2 .nil))) 4 (.one 1 2 (.one 6 2 (.one 7 2 .nil)))))))) mixed (by kernel_rfl) (by kernel_rfl) (by kernel_rfl) (HQ.then_ HQ.body) ?_
      revert D16 M16; generalize w8.drew = w16; intro D16 M16
      have B16 : Mem w16 w16 (FP M16 []) [] := M16.base [] (by decide)
      refine WP3.p rfl rfl rfl rfl (fun _ => Ex.mv rfl) ?_
      refine WP3.p rfl rfl rfl rfl (fun _ => Ex.fa fl72_1 rfl) ?_
      refine WP3.q B16.keep rfl rfl rfl rfl (fun w' hS => Ex.load ty39 rfl (M16.fp_cell (j := 1) (v := .slice B (List.length ns) cb) hS rfl rfl rfl)) ?_
      refine WP3.three ?_ ?_ ?_
      · skip
        refine WP.a rfl rfl rfl rfl (Ac.call rfl Tryd.func71 nm71 rfl (cloneH_ok w16 C cl ls (M16.rd hrl) hls (by omega))) ?_; rintro v20 w20 N20
        have B20 := B16.step N20.keep
        refine .inr ⟨fun _ => B20.keep, ?_⟩
        have M20 := M16.new N20
        obtain ⟨Ak, ck, rfl⟩ := own_slice (M20.get (i := 0) rfl)
        refine WP.two ?_ ?_
        · skip
          refine WP.a rfl rfl rfl rfl (Ac.alloc M20 (l := [.slice none 0 0]) (by kernel_rfl)) ?_; rintro v21 w21 ⟨g9, rfl, hg21, K21, M21⟩
          have B21 := B20.grow K21 (M21.get (i := 0) rfl) (by intro b hb; simp only [blk, List.mem_singleton] at hb; omega)
          refine .inr ⟨fun _ => B21.keep, ?_⟩
          refine WP.a rfl rfl rfl rfl (Ac.alloc M21 (l := [.slice none 0 0]) (by kernel_rfl)) ?_; rintro v22 w22 ⟨g10, rfl, hg22, K22, M22⟩
          have B22 := B21.grow K22 (M22.get (i := 0) rfl) (by intro b hb; simp only [blk, List.mem_singleton] at hb; omega)
          refine .inr ⟨fun _ => B22.keep, ?_⟩
          refine WP.a0 rfl rfl rfl (Ac.st M22 ty39 rfl rfl rfl (i := 1) rfl (by simp)) ?_; rintro v23 w23 ⟨K23, M23⟩
          have B23 := B22.turn (i := 1) rfl K23 (M23.get (i := 1) rfl) (fun b hb => .inl hb)
          refine .inr ⟨fun _ => B23.keep, ?_⟩
          try dsimp only [List.set] at M23
          refine WP.a0 rfl rfl rfl (Ac.st M23 ty39 rfl rfl rfl (i := 0) rfl (by simp)) ?_; rintro v24 w24 ⟨K24, M24⟩; refine .inl ⟨rfl, Keep nof w24, ?_⟩
          try dsimp only [List.set] at M24
          refine WP.nil ?_
          refine WX.join (((Ak, ck, g9, g10) : Option Addr × Nat × Nat × Nat)) ?_ (.cons rfl (.cons rfl (.cons rfl (.cons rfl (.cons rfl (.nil))))))
          exact (Mem.pick M24 [2, 1, 0, 4, 3] (by decide) rfl)
        · skip
          refine WP.a rfl rfl rfl rfl (Ac.alloc M20 (l := [.slice none 0 0]) (by kernel_rfl)) ?_; rintro v25 w25 ⟨g10, rfl, hg25, K25, M25⟩
          have B25 := B20.grow K25 (M25.get (i := 0) rfl) (by intro b hb; simp only [blk, List.mem_singleton] at hb; omega)
          refine .inr ⟨fun _ => B25.keep, ?_⟩
          refine WP.a rfl rfl rfl rfl (Ac.alloc M25 (l := [.slice none 0 0]) (by kernel_rfl)) ?_; rintro v26 w26 ⟨g9, rfl, hg26, K26, M26⟩
          have B26 := B25.grow K26 (M26.get (i := 0) rfl) (by intro b hb; simp only [blk, List.mem_singleton] at hb; omega)
          refine .inr ⟨fun _ => B26.keep, ?_⟩
          refine WP.a0 rfl rfl rfl (Ac.st M26 ty39 rfl rfl rfl (i := 0) rfl (by simp)) ?_; rintro v27 w27 ⟨K27, M27⟩
          have B27 := B26.turn (i := 0) rfl K27 (M27.get (i := 0) rfl) (fun b hb => .inl hb)
          refine .inr ⟨fun _ => B27.keep, ?_⟩
          try dsimp only [List.set] at M27
          refine WP.a0 rfl rfl rfl (Ac.st M27 ty39 rfl rfl rfl (i := 1) rfl (by simp)) ?_; rintro v28 w28 ⟨K28, M28⟩; refine .inl ⟨rfl, Keep nof w28, ?_⟩
          try dsimp only [List.set] at M28
          refine WP.nil ?_
          refine WX.join (((Ak, ck, g9, g10) : Option Addr × Nat × Nat × Nat)) ?_ (.cons rfl (.cons rfl (.cons rfl (.cons rfl (.cons rfl (.nil))))))
          exact (Mem.pick M28 [2, 0, 1, 4, 3] (by decide) rfl)
      · skip
        refine WP.a rfl rfl rfl rfl (Ac.alloc M16 (l := [.slice none 0 0]) (by kernel_rfl)) ?_; rintro v29 w29 ⟨g9, rfl, hg29, K29, M29⟩
        have B29 := B16.grow K29 (M29.get (i := 0) rfl) (by intro b hb; simp only [blk, List.mem_singleton] at hb; omega)
        refine .inr ⟨fun _ => B29.keep, ?_⟩
        refine WP.two ?_ ?_
        · skip
          refine WP.a rfl rfl rfl rfl (Ac.call rfl Tryd.func71 nm71 rfl (cloneH_ok w29 C cl ls (M29.rd hrl) hls (by omega))) ?_; rintro v30 w30 N30
          have B30 := B29.step N30.keep
          refine .inr ⟨fun _ => B30.keep, ?_⟩
          have M30 := M29.new N30
          obtain ⟨Ak, ck, rfl⟩ := own_slice (M30.get (i := 0) rfl)
          refine WP.a rfl rfl rfl rfl (Ac.alloc M30 (l := [.slice none 0 0]) (by kernel_rfl)) ?_; rintro v31 w31 ⟨g10, rfl, hg31, K31, M31⟩
          have B31 := B30.grow K31 (M31.get (i := 0) rfl) (by intro b hb; simp only [blk, List.mem_singleton] at hb; omega)
          refine .inr ⟨fun _ => B31.keep, ?_⟩
          refine WP.a0 rfl rfl rfl (Ac.st M31 ty39 rfl rfl rfl (i := 2) rfl (by simp)) ?_; rintro v32 w32 ⟨K32, M32⟩
          have B32 := B31.turn (i := 1) rfl K32 (M32.get (i := 2) rfl) (fun b hb => .inl hb)
          refine .inr ⟨fun _ => B32.keep, ?_⟩
          try dsimp only [List.set] at M32
          refine WP.a0 rfl rfl rfl (Ac.st M32 ty39 rfl rfl rfl (i := 0) rfl (by simp)) ?_; rintro v33 w33 ⟨K33, M33⟩; refine .inl ⟨rfl, Keep nof w33, ?_⟩
          try dsimp only [List.set] at M33
          refine WP.nil ?_
          refine WX.join (((Ak, ck, g9, g10) : Option Addr × Nat × Nat × Nat)) ?_ (.cons rfl (.cons rfl (.cons rfl (.cons rfl (.cons rfl (.nil))))))
          exact (Mem.pick M33 [1, 2, 0, 4, 3] (by decide) rfl)
        · skip
          refine WP.a rfl rfl rfl rfl (Ac.alloc M29 (l := [.slice none 0 0]) (by kernel_rfl)) ?_; rintro v34 w34 ⟨g10, rfl, hg34, K34, M34⟩
          have B34 := B29.grow K34 (M34.get (i := 0) rfl) (by intro b hb; simp only [blk, List.mem_singleton] at hb; omega)
          refine .inr ⟨fun _ => B34.keep, ?_⟩
          refine WP.a rfl rfl rfl rfl (Ac.call rfl Tryd.func71 nm71 rfl (cloneH_ok w34 C cl ls (M34.rd hrl) hls (by omega))) ?_; rintro v35 w35 N35
          have B35 := B34.step N35.keep
          refine .inr ⟨fun _ => B35.keep, ?_⟩
          have M35 := M34.new N35
          obtain ⟨Ak, ck, rfl⟩ := own_slice (M35.get (i := 0) rfl)
          refine WP.a0 rfl rfl rfl (Ac.st M35 ty39 rfl rfl rfl (i := 2) rfl (by simp)) ?_; rintro v36 w36 ⟨K36, M36⟩
          have B36 := B35.turn (i := 1) rfl K36 (M36.get (i := 2) rfl) (fun b hb => .inl hb)
          refine .inr ⟨fun _ => B36.keep, ?_⟩
          try dsimp only [List.set] at M36
          refine WP.a0 rfl rfl rfl (Ac.st M36 ty39 rfl rfl rfl (i := 1) rfl (by simp)) ?_; rintro v37 w37 ⟨K37, M37⟩; refine .inl ⟨rfl, Keep nof w37, ?_⟩
          try dsimp only [List.set] at M37
          refine WP.nil ?_
          refine WX.join (((Ak, ck, g9, g10) : Option Addr × Nat × Nat × Nat)) ?_ (.cons rfl (.cons rfl (.cons rfl (.cons rfl (.cons rfl (.nil))))))
          exact (Mem.pick M37 [0, 2, 1, 4, 3] (by decide) rfl)
      · skip
        refine WP.a rfl rfl rfl rfl (Ac.alloc M16 (l := [.slice none 0 0]) (by kernel_rfl)) ?_; rintro v38 w38 ⟨g10, rfl, hg38, K38, M38⟩
        have B38 := B16.grow K38 (M38.get (i := 0) rfl) (by intro b hb; simp only [blk, List.mem_singleton] at hb; omega)
        refine .inr ⟨fun _ => B38.keep, ?_⟩
        refine WP.two ?_ ?_
        · skip
          refine WP.a rfl rfl rfl rfl (Ac.call rfl Tryd.func71 nm71 rfl (cloneH_ok w38 C cl ls (M38.rd hrl) hls (by omega))) ?_; rintro v39 w39 N39
          have B39 := B38.step N39.keep
          refine .inr ⟨fun _ => B39.keep, ?_⟩
          have M39 := M38.new N39
          obtain ⟨Ak, ck, rfl⟩ := own_slice (M39.get (i := 0) rfl)
          refine WP.a rfl rfl rfl rfl (Ac.alloc M39 (l := [.slice none 0 0]) (by kernel_rfl)) ?_; rintro v40 w40 ⟨g9, rfl, hg40, K40, M40⟩
          have B40 := B39.grow K40 (M40.get (i := 0) rfl) (by intro b hb; simp only [blk, List.mem_singleton] at hb; omega)
          refine .inr ⟨fun _ => B40.keep, ?_⟩
          refine WP.a0 rfl rfl rfl (Ac.st M40 ty39 rfl rfl rfl (i := 0) rfl (by simp)) ?_; rintro v41 w41 ⟨K41, M41⟩
          have B41 := B40.turn (i := 0) rfl K41 (M41.get (i := 0) rfl) (fun b hb => .inl hb)
          refine .inr ⟨fun _ => B41.keep, ?_⟩
          try dsimp only [List.set] at M41
          refine WP.a0 rfl rfl rfl (Ac.st M41 ty39 rfl rfl rfl (i := 2) rfl (by simp)) ?_; rintro v42 w42 ⟨K42, M42⟩; refine .inl ⟨rfl, Keep nof w42, ?_⟩
          try dsimp only [List.set] at M42
          refine WP.nil ?_
          refine WX.join (((Ak, ck, g9, g10) : Option Addr × Nat × Nat × Nat)) ?_ (.cons rfl (.cons rfl (.cons rfl (.cons rfl (.cons rfl (.nil))))))
          exact (Mem.pick M42 [1, 0, 2, 4, 3] (by decide) rfl)
        · skip
          refine WP.a rfl rfl rfl rfl (Ac.alloc M38 (l := [.slice none 0 0]) (by kernel_rfl)) ?_; rintro v43 w43 ⟨g9, rfl, hg43, K43, M43⟩
          have B43 := B38.grow K43 (M43.get (i := 0) rfl) (by intro b hb; simp only [blk, List.mem_singleton] at hb; omega)
          refine .inr ⟨fun _ => B43.keep, ?_⟩
          refine WP.a rfl rfl rfl rfl (Ac.call rfl Tryd.func71 nm71 rfl (cloneH_ok w43 C cl ls (M43.rd hrl) hls (by omega))) ?_; rintro v44 w44 N44
          have B44 := B43.step N44.keep
          refine .inr ⟨fun _ => B44.keep, ?_⟩
          have M44 := M43.new N44
          obtain ⟨Ak, ck, rfl⟩ := own_slice (M44.get (i := 0) rfl)
          refine WP.a0 rfl rfl rfl (Ac.st M44 ty39 rfl rfl rfl (i := 1) rfl (by simp)) ?_; rintro v45 w45 ⟨K45, M45⟩
          have B45 := B44.turn (i := 0) rfl K45 (M45.get (i := 1) rfl) (fun b hb => .inl hb)
          refine .inr ⟨fun _ => B45.keep, ?_⟩
          try dsimp only [List.set] at M45
          refine WP.a0 rfl rfl rfl (Ac.st M45 ty39 rfl rfl rfl (i := 2) rfl (by simp)) ?_; rintro v46 w46 ⟨K46, M46⟩; refine .inl ⟨rfl, Keep nof w46, ?_⟩
          try dsimp only [List.set] at M46
          refine WP.nil ?_
          refine WX.join (((Ak, ck, g9, g10) : Option Addr × Nat × Nat × Nat)) ?_ (.cons rfl (.cons rfl (.cons rfl (.cons rfl (.cons rfl (.nil))))))
          exact (Mem.pick M46 [0, 1, 2, 4, 3] (by decide) rfl)
    · rintro ⟨Ak, ck, g9, g10⟩ w47 M47
      dsimp only at M47
      refine WC.sub (env' := [(1, .int .i64 (dn : Int)), (3, .pointer (some ⟨gb, 0, none⟩)), (6, .pointer (some ⟨gr, 0, none⟩)), (9, .pointer (some ⟨g9, 0, none⟩)), (10, .pointer (some ⟨g10, 0, none⟩))]) (.cons rfl (.cons rfl (.cons rfl (.cons rfl (.cons rfl (.nil)))))) ?_
      refine qD ?_
      refine WL.ac rfl rfl rfl (Ac.alloc M47 (l := bytesV z32) (by kernel_rfl)) ?_; rintro v48 w48 ⟨g11, rfl, hg48, K48, M48⟩
      refine qE ?_
      refine qD ?_
      refine WL.ac rfl rfl rfl (Ac.alloc M48 al3) ?_; rintro v49 w49 ⟨g12, rfl, hg49, K49, M49⟩
      refine WL.ac rfl rfl rfl (Ac.alloc M49 al3) ?_; rintro v50 w50 ⟨g13, rfl, hg50, K50, M50⟩
      refine WL.ac0 rfl rfl (Ac.st M50 ty3 rfl rfl rfl (i := 1) rfl (by simp)) ?_; rintro v51 w51 ⟨K51, M51⟩
      try dsimp only [List.set] at M51
      refine WL.ac0 rfl rfl (Ac.st M51 ty3 rfl rfl rfl (i := 0) rfl (by simp)) ?_; rintro v52 w52 ⟨K52, M52⟩
      try dsimp only [List.set] at M52
      refine qE ?_
      refine qD ?_
      refine WL.ex rfl rfl rfl (Ex.mkf (f' := []) (c' := [.pointer (some ⟨g10, 0, none⟩), .pointer (some ⟨g11, 0, none⟩)]) rfl rfl) ?_
      refine qB ?_
      refine qE ?_
      refine qD ?_
      refine WL.ex rfl rfl rfl (Ex.fa fl72_0 rfl) ?_
      refine WL.ex rfl rfl rfl (Ex.load ty67 rfl (M52.cell (i := 6) (v := .slice A xs.length c) rfl rfl)) ?_
      refine WL.ex rfl rfl rfl (Ex.len Tryd.underlying67 rfl) ?_
      refine WL.ac rfl rfl rfl (Ac.alloc M52 al3) ?_; rintro v58 w58 ⟨g15, rfl, hg58, K58, M58⟩
      refine WL.ac0 rfl rfl (Ac.st M58 ty3 rfl rfl rfl (i := 0) rfl (by simp)) ?_; rintro v59 w59 ⟨K59, M59⟩
      try dsimp only [List.set] at M59
      refine qE ?_
      refine qD ?_
      refine WL.ex rfl rfl rfl (Ex.mkf (f' := []) (c' := [.pointer (some ⟨g9, 0, none⟩), .pointer (some ⟨g13, 0, none⟩), .pointer (some ⟨g12, 0, none⟩), .pointer (some ⟨g11, 0, none⟩), .pointer (some ⟨g15, 0, none⟩)]) rfl rfl) ?_
      refine qB ?_
      refine qE ?_
      refine WC.seq ?_
      refine WC.block ?_
      refine qD ?_
      refine qA ?_
      refine WL.ex rfl rfl rfl (Ex.fa fl72_0 rfl) ?_
      refine WL.ex rfl rfl rfl (Ex.load ty67 rfl (M59.cell (i := 7) (v := .slice A xs.length c) rfl rfl)) ?_
      refine qA ?_
      refine qA ?_
      obtain ⟨gk, tl, rfl, _, _, _, _, M59b⟩ := mem_rowblk M59 (i := 4) rfl (by omega)
      try dsimp only [List.set] at M59b
      have Mj : Mem w w59 nof [rootJ gk ck (List.length ls) tl g9 g10 g11 g12 g13 g15 ⟨ls, ns, z32, 0, 0, List.length ls⟩ B cb, blk gb [.slice A xs.length c, .slice B (List.length ns) cb] 72, blk gr (bytesV z32) 31] := by
        have Ma : Mem w w59 nof [blk gk (fl ls ++ tl) 31, blk g9 [.slice (some ⟨gk, 0, none⟩) (List.length ls) ck] 39, blk g10 [.slice B (List.length ns) cb] 39, blk g11 (bytesV z32) 31, blk g12 [.int .i64 0] 3, blk g13 [.int .i64 0] 3, blk g15 [.int .i64 (xs.length : Int)] 3, blk gb [.slice A xs.length c, .slice B (List.length ns) cb] 72, blk gr (bytesV z32) 31] := M59b.pick [4, 5, 6, 3, 2, 1, 0, 7, 8] (by decide) rfl
        rw [show Value.int .i64 (xs.length : Int) = .int .i64 ((List.length ls : Nat) : Int) by rw [hll2]] at Ma
        exact Ma.closeS.closeS.closeS.closeS.closeS.closeS
      have Mk : Mem w w59 nof [(fun s : KS × Option Addr × Nat => sep (rootJ gk ck (List.length ls) tl g9 g10 g11 g12 g13 g15 s.1 s.2.1 s.2.2) (pureR (NdP B ns s.1 s.2.1 s.2.2))) ((⟨ls, ns, z32, 0, 0, List.length ls⟩, B, cb) : KS × Option Addr × Nat), blk gb [.slice A xs.length c, .slice B (List.length ns) cb] 72, blk gr (bytesV z32) 31] := by
        have Ma := Mj.free (r := pureR (NdP B ns ⟨ls, ns, z32, 0, 0, List.length ls⟩ B cb)) ⟨fun a h => ⟨a, h, rfl⟩, fun W h => h, hcb, Nat.le_refl _⟩ rfl
        exact (Ma.pick [1, 0, 2, 3] (by decide) rfl).closeS
      replace M59 := Mk
      refine WL.ac rfl rfl rfl (Ac.call rfl Tryd.func63 nm63 rfl ((mclimbI_ok (KI (List.length ls)) flR fpR (fun s : KS × Option Addr × Nat => sep (rootJ gk ck (List.length ls) tl g9 g10 g11 g12 g13 g15 s.1 s.2.1 s.2.2) (pureR (NdP B ns s.1 s.2.1 s.2.2))) (fun s => s.1) w59 A c dn xs (.func (.func 72) #[] #[.pointer (some ⟨g10, 0, none⟩), .pointer (some ⟨g11, 0, none⟩)]) (.func (.func 73) #[] #[.pointer (some ⟨g9, 0, none⟩), .pointer (some ⟨g13, 0, none⟩), .pointer (some ⟨g12, 0, none⟩), .pointer (some ⟨g11, 0, none⟩), .pointer (some ⟨g15, 0, none⟩)]) ((⟨ls, ns, z32, 0, 0, List.length ls⟩, B, cb) : KS × Option Addr × Nat) (M59.get (i := 0) rfl) (M59.rd hr) (rdFar M59 (i := 0) rfl hr (u64V_pos hxp)) (by omega) hxp (by omega) hx (fun _ => 0) rfl (fun _ _ _ _ _ => Nat.zero_le _) (fun _ _ _ => Nat.le_refl _)
          ⟨rfl, hls, hns, h32_0, fun _ => ⟨rfl, by show 0 + xs.length = ls.length; omega, Nat.zero_le _, Nat.le_refl _⟩, fun h => by omega⟩ (fun t l i t2 u m e h => h.lone e) (fun t i b u m h hm => h.pair hm) (fun t u h => h.next)
          (fun s W l i hiv _ _ _ K h => by
            obtain ⟨u, m, hki⟩ := hiv
            obtain ⟨hp1, hp2, hp3, hp4⟩ := h.2.1
            exact ⟨_, _, [], [.pointer (some ⟨g10, 0, none⟩), .pointer (some ⟨g11, 0, none⟩)], rfl, Tryd.func72, by kernel_rfl, rfl, (root1_ok W gk ck (List.length ls) tl g9 g10 g11 g12 g13 g15 s.1 s.2.1 s.2.2 l i h.1 (hp2 W (M59.old (i := 0) rfl hrn K)) (fun hne a ha hm => by
              obtain ⟨a0, e1, e2⟩ := hp1 a ha
              refine rdFar M59 (i := 0) rfl hrn ?_ a0 e1 (by rw [← e2]; exact List.mem_append_left _ hm)
              rw [fl_len hns]
              have := List.length_pos_iff.2 hne
              omega) hki.ns32 hki.sd32 (by omega) hp3).mono fun v W' hh => by
                obtain ⟨s', A', c', b, h1, h2, h3, h4, h5, h6, h7⟩ := hh
                exact ⟨(s', A', c'), b, h1, Turn.pure h2 ⟨fun a ha => by
                  obtain ⟨a0, e1, e2⟩ := h4 a ha
                  obtain ⟨a1, e3, e4⟩ := hp1 a0 e1
                  exact ⟨a1, e3, e2.trans e4⟩, fun W2 hW => h5 W2 (hp2 W2 hW), h6, Nat.le_trans h7 hp4⟩, h3⟩⟩)
          (fun s W i both hi hiv K h => by
            obtain ⟨u, m, hki, hm⟩ := hiv
            have hq1 : 1 ≤ (if both = true then 2 else 1) := by cases both <;> decide
            obtain ⟨k1, k2, k3, k4⟩ := hki.go (by omega)
            obtain ⟨hp1, hp2, hp3, hp4⟩ := h.2.1
            exact ⟨_, _, [], [.pointer (some ⟨g9, 0, none⟩), .pointer (some ⟨g13, 0, none⟩), .pointer (some ⟨g12, 0, none⟩), .pointer (some ⟨g11, 0, none⟩), .pointer (some ⟨g15, 0, none⟩)], rfl, Tryd.func73, by kernel_rfl, rfl, (root2_ok W gk ck (List.length ls) tl g9 g10 g11 g12 g13 g15 s.1 s.2.1 s.2.2 i both h.1 hki.len hki.kn32 hki.sd32 (by omega) (by omega) (by omega) hi ((hT.keep M59.keep).keepF K (M59.tabF hT 0 rfl)) (fun b hb => M59.tabF hT 0 rfl b (List.mem_append_left _ hb))).mono fun v W' hh => ⟨(fpR s.1 i both, s.2), Turn.pure hh ⟨hp1, by rw [fpR_ns]; exact hp2, by rw [fpR_ns]; exact hp3, by rw [fpR_ns]; exact hp4⟩, rfl⟩⟩)))) ?_; rintro v67 w67 ⟨s1, b1, rfl, T67, hcf, hiv⟩
      have M67 := M59.turned (i := 0) rfl T67
      try dsimp only [List.set] at M67
      obtain ⟨t1, A1, c1⟩ := s1
      have hct := climb_rtop dn 0 (xs.zip ls) ⟨ls, ns, z32, 0, 0, List.length ls⟩ rfl (by rw [zip_snd _ _ hll2]; exact root_start (by intro e; rw [e] at hll2; simp at hll2; omega))
      rw [zip_fst _ _ hll2] at hct
      have hcf2 : climbF flR fpR dn 0 xs ⟨ls, ns, z32, 0, 0, List.length ls⟩ = (if b1 = true then some t1 else none) := hcf
      have M67 := M67.openS.openS.openS.openS.openS.openS.openS
      try dsimp only at M67
      refine WL.ex rfl rfl rfl (Ex.not rfl) ?_
      refine qB ?_
      refine qE ?_
      refine WC.cond rfl (fun h35 => ?_) (fun h35 => ?_)
      · have hb1 : b1 = false := by simpa using h35
        subst hb1
        have hrt : rtop dn (xs.zip ls) ns = none := by
          cases hq : rtop dn (xs.zip ls) ns with
          | none => rfl
          | some o =>
            dsimp only at hct
            rw [hq] at hct
            obtain ⟨t', e1, _⟩ := hct
            rw [hcf2] at e1
            cases e1
        have hrf := root_none (d := (dn : Int)) hw0 hrt
        refine qD ?_
        refine WL.ex rfl rfl rfl (Ex.bld bd31 (parts := []) (l := bytesV z32) rfl rfl rfl rfl) ?_
        refine WL.ac0 rfl rfl (Ac.stA M67 ty31 rfl rfl (vs := bytesV z32) rfl (h32_len h32_0) (bytesV_one _) (i := 9) rfl (by rw [h32_len h32_0]; decide)) ?_; rintro v71 w71 ⟨K71, M71⟩
        try dsimp only [List.set] at M71
        rw [splice_all _ _ rfl] at M71
        refine qB ?_
        refine qE ?_
        refine WC.ret ?_
        refine WX.ret_block (WX.ret_then (?_))
        refine WX.retn rfl (.cell rfl (run_loadVarA ty31 (h32_len (by first | assumption | exact h32_0)) (M71.rdw (i := 9) rfl)) (.tmp rfl .nil)) rfl ?_
        rw [hrf]
        exact ⟨rfl, M71.keep⟩
      · have hb1 : b1 = true := by simpa using h35
        subst hb1
        obtain ⟨o, n2, hrt, hn2, hpi, hst⟩ : ∃ o n2, rtop dn (xs.zip ls) ns = some (o, n2) ∧ t1.ns = n2 ∧ t1.pi = 0 ∧ St2 t1 [] (o.map (·.2)) := by
          cases hq : rtop dn (xs.zip ls) ns with
          | none =>
            dsimp only at hct
            rw [hq] at hct
            dsimp only at hct
            rw [hcf2] at hct
            cases hct
          | some o =>
            dsimp only at hct
            rw [hq] at hct
            obtain ⟨t', e1, e2, e3, e4⟩ := hct
            rw [hcf2, if_pos rfl] at e1
            obtain rfl := Option.some.inj e1
            exact ⟨o.1, o.2, rfl, e2, e3, e4⟩
        subst hn2
        obtain ⟨m1, hki⟩ := hiv rfl
        have hki : KI (List.length ls) t1 0 m1 := hki
        refine qD ?_
        refine WL.ex rfl rfl rfl (Ex.load ty39 rfl (M67.cell (i := 2) (v := .slice A1 (List.length t1.ns) c1) rfl rfl)) ?_
        refine WL.ex rfl rfl rfl (Ex.len Tryd.underlying39 rfl) ?_
        refine WL.ex rfl rfl rfl (Ex.gtr rfl rfl) ?_
        refine qB ?_
        refine qE ?_
        refine WC.cond_dec rfl (fun h44 => ?_) (fun h44 => ?_)
        · have hne : t1.ns ≠ [] := by intro e; rw [e] at h44; simp at h44
          have hrf := root_long (d := (dn : Int)) hw0 hrt hne
          refine qD ?_
          refine WL.ex rfl rfl rfl (Ex.bld bd31 (parts := []) (l := bytesV z32) rfl rfl rfl rfl) ?_
          refine WL.ac0 rfl rfl (Ac.stA M67 ty31 rfl rfl (vs := bytesV z32) rfl (h32_len h32_0) (bytesV_one _) (i := 9) rfl (by rw [h32_len h32_0]; decide)) ?_; rintro v78 w78 ⟨K78, M78⟩
          try dsimp only [List.set] at M78
          rw [splice_all _ _ rfl] at M78
          refine qB ?_
          refine qE ?_
          refine WC.ret ?_
          refine WX.ret_block (WX.ret_then (?_))
          refine WX.retn rfl (.cell rfl (run_loadVarA ty31 (h32_len (by first | assumption | exact h32_0)) (M78.rdw (i := 9) rfl)) (.tmp rfl .nil)) rfl ?_
          rw [hrf]
          exact ⟨rfl, M78.keep⟩
        · have hne : t1.ns = [] := List.length_eq_zero_iff.1 (by omega)
          rw [hne] at hrt
          have hrf := root_some (d := (dn : Int)) hw0 hrt
          have hone : o.map (·.2) ≠ [] := by
            intro e
            exact rtop_ne dn _ _ _ _ hrt (fun e2 => by
              have h7 : xs = [] := by rw [← zip_fst xs ls hll2, e2]; rfl
              rw [h7] at hxp
              simp at hxp) (List.map_eq_nil_iff.1 e)
          obtain ⟨hf1, hf2⟩ := hst.first hpi hone
          rw [← hf1] at hrf
          have hk32 : H32 (t1.kn.getD 0 z32) := getD_32 hki.kn32 hf2
          refine WC.skip ?_
          refine WX.normal_block (WX.next (?_))
          refine qD ?_
          refine WL.ex rfl rfl rfl (Ex.load ty39 rfl (M67.cell (i := 1) (v := .slice (some ⟨gk, 0, none⟩) (List.length ls) ck) rfl rfl)) ?_
          refine WL.ex rfl rfl rfl (Ex.ia Tryd.underlying39 sz31 rfl rfl ⟨by omega, by omega⟩) ?_
          refine WL.ex rfl rfl rfl (Ex.loadA ty31 rfl (l := bytesV (t1.kn.getD 0 z32)) (h32_len hk32) (M67.rdt (i := 0) rfl (kn_at (i := 0) hki.kn32 (getD_get hf2) (by simp)))) ?_
          refine WL.ac0 rfl rfl (Ac.stA M67 ty31 rfl rfl (vs := bytesV (t1.kn.getD 0 z32)) rfl (h32_len hk32) (bytesV_one _) (i := 9) rfl (by rw [h32_len hk32]; decide)) ?_; rintro v83 w83 ⟨K83, M83⟩
          try dsimp only [List.set] at M83
          rw [splice_all _ _ (by rw [h32_len hk32]; rfl)] at M83
          refine qB ?_
          refine qE ?_
          refine WC.ret ?_
          refine WX.retn rfl (.cell rfl (run_loadVarA ty31 (h32_len (by first | assumption | exact h32_0)) (M83.rdw (i := 9) rfl)) (.tmp rfl .nil)) rfl ?_
          rw [hrf]
          exact ⟨rfl, M83.keep⟩

end Go.Proofs.YtchmjpdkonfifaaDoor

set_option linter.unusedVariables false
set_option linter.unusedSimpArgs false
namespace Go.Proofs.YtchmjpdkonfifaaDoor
open Go.Sx Go.RowKit
attribute [local irreducible] Ac Ex WL WC WX WP Gives sha

theorem wrong_in {d : Int} {xs : List Nat} {n : Nat} (h1 : ¬ (d < 0 ∨ 32 < d)) (h2 : ¬ xs.length = 0) (h3 : xs.Pairwise (· < ·)) (h4 : n = xs.length) (h5 : ¬ (xs.any fun x => decide (2 ^ d.toNat ≤ x)) = true) : wrongF d xs n = 0 := by
  rw [wrongF, if_neg h1, if_neg h2, if_neg (not_not_intro ⟨h3, by omega⟩), if_neg h5]

def checkF (d : Int) (xs : List Nat) (ns ls : Hs) (rt : List UInt8) (n : Nat) : Int := if (rootF d xs ns ls).2 ≠ 0 then (rootF d xs ns ls).2 else if n ≤ mxp xs xs.length then 10 else if (rootF d xs ns ls).1 ≠ rt then 14 else 0
theorem rtop_32 : ∀ (d : Nat) (L : List Kn) (ns : Hs) (o : List Kn) (n2 : Hs), (∀ a ∈ L, H32 a.2) → rtop d L ns = some (o, n2) → ∀ a ∈ o, H32 a.2
  | 0, L, ns, o, n2, h, e => by
    rw [rtop] at e
    obtain ⟨rfl, _⟩ := Prod.mk.inj (Option.some.inj e)
    exact h
  | d + 1, L, ns, o, n2, h, e => by
    rw [rtop] at e
    obtain ⟨q, h1, h2⟩ := Option.bind_eq_some_iff.1 e
    exact rtop_32 d q.1 q.2 o n2 (rlv_32 L ns q.1 q.2 h1).1 h2
theorem getD32 {l : Hs} (h : ∀ a ∈ l, H32 a) (i : Nat) : H32 (l.getD i z32) := by
  rw [List.getD_eq_getElem?_getD]
  cases hq : l[i]? with
  | none => exact h32_0
  | some a => exact h a (List.mem_of_getElem? hq)
theorem rootF_32 (d : Int) (xs : List Nat) (ns : Hs) {ls : Hs} (h : ∀ a ∈ ls, H32 a) : H32 (rootF d xs ns ls).1 := by
  unfold rootF
  split
  · exact h32_0
  · split
    · exact h32_0
    · split
      · exact h32_0
      · split
        · exact h32_0
        · split
          · exact h32_0
          · rename_i o n2 heq
            split
            · refine getD32 (fun a ha => ?_) 0
              obtain ⟨q, hq, rfl⟩ := List.mem_map.1 ha
              exact rtop_32 _ _ _ _ _ (fun a ha => h _ (List.of_mem_zip (a := a.1) (b := a.2) ha).2) heq q hq
            · exact h32_0
theorem rootF_0 {d : Int} {xs : List Nat} {ns ls : Hs} (h : (rootF d xs ns ls).2 = 0) : 0 < xs.length ∧ SI xs := by
  unfold rootF at h
  by_cases h1 : d < 0 ∨ 32 < d
  · rw [if_pos h1] at h; cases h
  · rw [if_neg h1] at h
    by_cases h2 : xs.length = 0
    · rw [if_pos h2] at h; cases h
    · rw [if_neg h2] at h
      by_cases h3 : xs.Pairwise (· < ·) ∧ ls.length = xs.length
      · exact ⟨by omega, si_of_pw h3.1⟩
      · rw [if_pos h3] at h; cases h
/-- The greatest of a rising row is the last. -/
theorem mxp_last {xs : List Nat} (h : SI xs) (h0 : 0 < xs.length) : mxp xs xs.length = gv xs (xs.length - 1) := by
  obtain ⟨k, hk, e⟩ := mxp_at xs xs.length h0
  have h1 := mxp_ge xs xs.length (xs.length - 1) (by omega)
  by_cases c : k = xs.length - 1
  · rw [e, c]
  · have h2 := h k (xs.length - 1) (by omega) (by omega)
    omega

/- (sponsion/multi.Bundle).Check -/
theorem check33_ok (w : World) (A B C : Option Addr) (c cb cl : Nat) (xs : List Nat) (ns ls : Hs) (d : Int) (rt : List UInt8) (n : Nat) (hr : Rd w A (u64V xs)) (hx : ∀ k, gv xs k < 18446744073709551616) (hn50 : xs.length < 50) (hrn : Rd w B (fl ns)) (hns : ∀ a ∈ ns, H32 a) (hnl : ns.length ≤ 1000) (hcb : ns.length ≤ cb) (hrl : Rd w C (fl ls)) (hls : ∀ a ∈ ls, H32 a) (hll : ls.length ≤ 1000) (hrt : H32 rt) (hT : Tabs w) :
    Gives Tryd.prog 39 #[.agg #[.slice A xs.length c, .slice B (List.length ns) cb], .int .i64 d, .agg (bytesV rt).toArray, .int .u64 (n : Int), .slice C (List.length ls) cl] w fun u w1 => u = .int .i64 (checkF d xs ns ls rt n) ∧ Keep nof w w1 := by
  have M0 := Mem.start w nof
  obtain ⟨E, hE⟩ : ∃ E, E = rootF d xs ns ls := ⟨_, rfl⟩
  have hE32 : H32 E.1 := by rw [hE]; exact rootF_32 d xs ns hls
  refine Gives.enter (n := 34) Tryd.func39 rfl Tryd.ntmps39 rfl (env := [(0, .agg #[.slice A xs.length c, .slice B (List.length ns) cb]), (1, .int .i64 d), (2, .agg (bytesV rt).toArray), (3, .int .u64 (n : Int)), (4, .slice C (List.length ls) cl)]) rfl ?_
  refine qD ?_
  refine WL.ac rfl rfl rfl (Ac.box M0 rfl (l := [.slice A xs.length c, .slice B (List.length ns) cb]) rfl) ?_; rintro v1 w1 ⟨gb, rfl, hg1, K1, M1⟩
  refine WL.ac rfl rfl rfl (Ac.box M1 rfl rfl) ?_; rintro v2 w2 ⟨g7, rfl, hg2, K2, M2⟩
  refine qB ?_
  refine qE ?_
  refine qD ?_
  refine WL.ex rfl rfl rfl (Ex.loadA ty72 rfl (l := [.slice A xs.length c, .slice B (List.length ns) cb]) rfl (M2.rdw (i := 1) rfl)) ?_
  refine qA ?_
  refine qA ?_
  refine WL.ac rfl rfl rfl (Ac.call rfl Tryd.func37 nm37 rfl (root_ok w2 A B C c cb cl xs ns ls d (M2.rd hr) hx hn50 (M2.rd hrn) hns hnl hcb (M2.rd hrl) hls hll (hT.keep M2.keep))) ?_; rintro v7 w7 ⟨rfl, K7⟩
  rw [← hE]
  have M7 := M2.step K7
  refine qA ?_
  refine WL.ex rfl rfl rfl (Ex.ext rfl rfl) ?_
  refine WL.ex rfl rfl rfl (Ex.ext rfl rfl) ?_
  refine WL.ac rfl rfl rfl (Ac.alloc M7 (l := bytesV (List.replicate 32 0)) (by kernel_rfl)) ?_; rintro v11 w11 ⟨g11, rfl, hg11, K11, M11⟩
  refine WL.ac0 rfl rfl (Ac.stA M11 ty31 rfl rfl rfl (h32_len (by first | assumption | exact h32_0)) (bytesV_one _) (i := 0) rfl (by first | (rw [h32_len (by first | assumption | exact h32_0), h32_len (by first | assumption | exact h32_0)]; decide) | (rw [h32_len (by first | assumption | exact h32_0)]; decide) | rw [h32_len (by first | assumption | exact h32_0)])) ?_; rintro v12 w12 ⟨K12, M12⟩
  try dsimp only [List.set] at M12
  rw [splice_all _ _ (by first | rw [h32_len (by first | assumption | exact h32_0), h32_len (by first | assumption | exact h32_0)] | rw [h32_len (by first | assumption | exact h32_0)])] at M12
  refine qB ?_
  refine qE ?_
  refine WC.seq ?_
  refine WC.block ?_
  refine qD ?_
  refine qA ?_
  refine WL.ex rfl rfl rfl (Ex.neI rfl rfl) ?_
  refine qB ?_
  refine qE ?_
  refine WC.cond rfl (fun h20 => ?_) (fun h20 => ?_)
  · have h20b : E.2 ≠ 0 := by simpa using h20
    have hck : checkF d xs ns ls rt n = E.2 := by rw [checkF, ← hE, if_pos h20b]
    refine qD ?_
    refine qA ?_
    refine qB ?_
    refine qE ?_
    refine WC.ret ?_
    refine WX.ret_block (WX.ret_then (?_))
    refine WX.ret1 rfl rfl ?_
    rw [hck]
    exact ⟨rfl, M12.keep⟩
  · have h20b : E.2 = 0 := by simpa using h20
    have hxp := (rootF_0 (show (rootF d xs ns ls).2 = 0 by rw [← hE]; exact h20b)).1
    refine qD ?_
    refine WL.ex rfl rfl rfl (Ex.fa fl72_0 rfl) ?_
    refine WL.ex rfl rfl rfl (Ex.load ty67 rfl (M12.cell (i := 2) (v := .slice A xs.length c) rfl rfl)) ?_
    refine WL.ac rfl rfl rfl (Ac.call rfl Tryd.func60 nm60 rfl (mxU_ok w12 A c xs (M12.rd hr) (by omega) (by omega))) ?_; rintro v21 w21 ⟨rfl, K21⟩
    have M21 := M12.step K21
    refine qA ?_
    refine WL.ex rfl rfl rfl (Ex.geq rfl rfl) ?_
    refine qB ?_
    refine qE ?_
    refine WC.cond_dec rfl (fun h24 => ?_) (fun h24 => ?_)
    · have hck : checkF d xs ns ls rt n = 10 := by rw [checkF, ← hE, if_neg (not_not_intro h20b), if_pos (by omega)]
      refine qD ?_
      refine qB ?_
      refine qE ?_
      refine WC.ret ?_
      refine WX.ret_block (WX.ret_then (?_))
      refine WX.ret1 rfl rfl ?_
      rw [hck]
      exact ⟨rfl, M21.keep⟩
    · have h24b : ¬ n ≤ mxp xs xs.length := by omega
      refine qD ?_
      refine WL.ex rfl rfl rfl (Ex.loadA ty31 rfl (h32_len (by first | assumption | exact h32_0)) (M21.rdw (i := 0) rfl)) ?_
      refine WL.ex rfl rfl rfl (Ex.loadA ty31 rfl (h32_len (by first | assumption | exact h32_0)) (M21.rdw (i := 1) rfl)) ?_
      refine WL.ex rfl rfl rfl (Ex.neA rfl rfl (eqHash w hE32 hrt)) ?_
      refine qB ?_
      refine qE ?_
      refine WC.cond rfl (fun h30 => ?_) (fun h30 => ?_)
      · have h30b : E.1 ≠ rt := by simpa using h30
        have hck : checkF d xs ns ls rt n = 14 := by rw [checkF, ← hE, if_neg (not_not_intro h20b), if_neg h24b, if_pos h30b]
        refine qD ?_
        refine qB ?_
        refine qE ?_
        refine WC.ret ?_
        refine WX.ret_block (WX.ret_then (?_))
        refine WX.ret1 rfl rfl ?_
        rw [hck]
        exact ⟨rfl, M21.keep⟩
      · have h30b : E.1 = rt := by simpa using h30
        have hck : checkF d xs ns ls rt n = 0 := by rw [checkF, ← hE, if_neg (not_not_intro h20b), if_neg h24b, if_neg (not_not_intro h30b)]
        refine WC.skip ?_
        refine WX.normal_block (WX.next (?_))
        refine qD ?_
        refine qB ?_
        refine qE ?_
        refine WC.ret ?_
        refine WX.ret1 rfl rfl ?_
        rw [hck]
        exact ⟨rfl, M21.keep⟩

end Go.Proofs.YtchmjpdkonfifaaDoor
