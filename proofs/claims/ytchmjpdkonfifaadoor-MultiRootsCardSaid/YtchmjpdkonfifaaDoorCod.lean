/- Plain Go types as Lean types: cells, lengths, equality, what comes in. My own text. -/
import Derived.Test.YtchmjpdkonfifaaDoorEq
set_option linter.unusedVariables false
set_option linter.unusedSimpArgs false
namespace Go.Sx
open Go.RowKit
theorem int4z : Int4 [0, 0, 0, 0] := ⟨rfl, fun i => by
  match i with
  | 0 => decide
  | 1 => decide
  | 2 => decide
  | 3 => decide
  | _ + 4 => simp⟩
theorem int4mk {a : List Nat} (h : a.length = 4) (hb : ∀ x ∈ a, x < 18446744073709551616) : Int4 a := ⟨h, fun i => by
  rw [List.getD]
  cases hi : a[i]? with
  | none => simp
  | some x => exact hb x (List.mem_of_getElem? hi)⟩
theorem oksI4 {w : World} {a : List Nat} (h : Int4 a) : CK.oks w (rep 4 [.int .u64]) (intV a) := by have := oks_u64 (w := w) a h.mem; rw [h.1] at this; exact this
theorem oksB8 {w : World} {l : List UInt8} {n : Nat} (h : l.length = n) : CK.oks w (rep n [.int .u8]) (bytesV l) := by subst h; exact oks_u8 l
theorem oks0 (w : World) : CK.oks w [] [] := by simp only [CK.oks]
theorem oks1 {w : World} {k : IntKind} {ks : List CK} {x : Nat} {vs : List Value} (h : (Lit.int k (x : Int)).wf = true) (hr : CK.oks w ks vs) : CK.oks w (.int k :: ks) (.int k (x : Int) :: vs) := ⟨_, _, rfl, ⟨_, rfl, h⟩, hr⟩
theorem wf32 {x : Nat} (h : x < 4294967296) : (Lit.int .u32 (x : Int)).wf = true := by simp [Lit.wf, IntKind.min, IntKind.max, IntKind.signed, IntKind.bits]; omega
theorem wf8 {x : Nat} (h : x < 256) : (Lit.int .u8 (x : Int)).wf = true := by simp [Lit.wf, IntKind.min, IntKind.max, IntKind.signed, IntKind.bits]; omega
theorem wf64 {x : Nat} (h : x < 18446744073709551616) : (Lit.int .u64 (x : Int)).wf = true := by simp [Lit.wf, IntKind.min, IntKind.max, IntKind.signed, IntKind.bits]; omega
abbrev H32 (l : List UInt8) : Prop := l.length = 32
theorem int4_len {a : List Nat} (h : Int4 a) : (intV a).length = 4 := by simp [intV, h.1]
theorem h32_len {l : List UInt8} (h : H32 l) : (bytesV l).length = 32 := by simpa using h
theorem h32_0 : H32 (List.replicate 32 0) := by simp [H32]
theorem h32_hash {l : List UInt8} (h : l.length ≤ 32) : H32 (hash32 l) := hash32_len h
theorem oks_h32 {w : World} {l : List UInt8} (h : H32 l) : CK.oks w (rep 32 [.int .u8]) (bytesV l) := oksB8 h
theorem seg_at {A z R : List Value} {o n : Nat} (hA : A.length = o) (hz : z.length = n) : ((A ++ (z ++ R)).drop o).take n = z := by
  subst hA; subst hz
  simp
theorem cell_at {A R : List Value} {v : Value} {o : Nat} (hA : A.length = o) : (A ++ ([v] ++ R))[o]? = some v := by
  subst hA
  simp
theorem set_at {A R : List Value} {v u : Value} {o : Nat} (hA : A.length = o) : (A ++ ([v] ++ R)).set o u = A ++ ([u] ++ R) := by
  subst hA
  simp
theorem splice_at {A z R vs : List Value} {o : Nat} (hA : A.length = o) (hz : z.length = vs.length) : splice (A ++ (z ++ R)) o vs = A ++ (vs ++ R) := by
  subst hA
  simp [splice, ← hz, List.drop_append]
theorem view_app {α β : Type} {w : World} {ks ls : List CK} {f : α → List Value} {g : β → List Value} {p : α → Prop} {q : β → Prop} (hf : ∀ vs, CK.oks w ks vs → ∃ a, vs = f a ∧ p a) (hg : ∀ vs, CK.oks w ls vs → ∃ b, vs = g b ∧ q b) :
    ∀ vs, CK.oks w (ks ++ ls) vs → ∃ ab : α × β, vs = f ab.1 ++ g ab.2 ∧ (p ab.1 ∧ q ab.2) := by
  intro vs h
  obtain ⟨h1, h2⟩ := oks_split ks ls vs h
  obtain ⟨a, ha, pa⟩ := hf _ h1
  obtain ⟨b, hb, qb⟩ := hg _ h2
  exact ⟨(a, b), by rw [← ha, ← hb, List.take_append_drop], pa, qb⟩
theorem view_one {α : Type} {w : World} {k : CK} {f : α → Value} {p : α → Prop} (h : ∀ v, CK.ok w k v → ∃ a, v = f a ∧ p a) : ∀ vs, CK.oks w [k] vs → ∃ a, vs = [f a] ∧ p a := by
  rintro vs ⟨v, r, rfl, hv, hr⟩
  simp only [CK.oks] at hr
  subst hr
  obtain ⟨a, rfl, ha⟩ := h v hv
  exact ⟨a, rfl, ha⟩
theorem view_nil {w : World} : ∀ vs, CK.oks w [] vs → ∃ a : Unit, vs = [] ∧ True := by
  intro vs h
  simp only [CK.oks] at h
  exact ⟨(), h, trivial⟩
theorem int4_view {w : World} : ∀ vs, CK.oks w (rep 4 [.int .u64]) vs → ∃ a, vs = intV a ∧ Int4 a := by
  intro vs h
  obtain ⟨a, ha, hab, e⟩ := oks_u64s 4 _ h
  exact ⟨a, e, int4mk ha hab⟩
theorem h32_view {w : World} : ∀ vs, CK.oks w (rep 32 [.int .u8]) vs → ∃ a, vs = bytesV a ∧ H32 a := by
  intro vs h
  obtain ⟨l, hl, e⟩ := oks_u8s 32 _ h
  exact ⟨l, e, hl⟩
theorem v_u8 {w : World} : ∀ v, CK.ok w (.int .u8) v → ∃ n : Nat, v = .int .u8 (n : Int) ∧ n < 256 := fun v h => by obtain ⟨n, h1, h2⟩ := ok_u8n h; exact ⟨n, h2, h1⟩
theorem v_u32 {w : World} : ∀ v, CK.ok w (.int .u32) v → ∃ n : Nat, v = .int .u32 (n : Int) ∧ n < 4294967296 := fun v h => by obtain ⟨n, h1, h2⟩ := ok_u32 h; exact ⟨n, h2, h1⟩
theorem v_u64 {w : World} : ∀ v, CK.ok w (.int .u64) v → ∃ n : Nat, v = .int .u64 (n : Int) ∧ n < 18446744073709551616 := fun v h => by obtain ⟨n, h1, h2⟩ := ok_u64 h; exact ⟨n, h2, h1⟩
theorem v_i64 {w : World} : ∀ v, CK.ok w (.int .i64) v → ∃ n : Int, v = .int .i64 n ∧ (-9223372036854775808 ≤ n ∧ n ≤ 9223372036854775807) := fun v h => by obtain ⟨n, h1, h2, h3⟩ := ok_i64 h; exact ⟨n, h3, h1, h2⟩
theorem v_bool {w : World} : ∀ v, CK.ok w .bool v → ∃ b : Bool, v = .bool b ∧ True := by
  intro v h
  obtain ⟨b, rfl, _⟩ : ∃ b, v = .bool b ∧ True := by
    first
    | (obtain ⟨b, hb⟩ := h; exact ⟨b, hb, trivial⟩)
    | (cases v <;> simp [CK.ok] at h <;> exact ⟨_, rfl, trivial⟩)
  exact ⟨b, rfl, trivial⟩
/-- Rows of things of one size, a fixed number of them. -/
structure ArrOk {α : Type} (n : Nat) (ok : α → Prop) (l : List α) : Prop where
  len : l.length = n
  mem : ∀ a ∈ l, ok a
theorem flat_len {α : Type} {C : α → List Value} {k : Nat} : ∀ {l : List α}, (∀ a ∈ l, (C a).length = k) → (l.flatMap C).length = l.length * k
  | [], _ => by simp
  | a :: r, h => by
    have h1 := h a (by simp)
    have h2 := flat_len (l := r) fun b hb => h b (by simp [hb])
    simp only [List.flatMap_cons, List.length_append, h1, h2, List.length_cons]
    rw [Nat.succ_mul]; omega
theorem arr_len {α : Type} {C : α → List Value} {ok : α → Prop} {n k m : Nat} {l : List α} (hk : ∀ {a}, ok a → (C a).length = k) (h : ArrOk n ok l) (hm : n * k = m) : (l.flatMap C).length = m := by
  rw [flat_len fun a ha => hk (h.mem a ha), h.len, hm]
theorem flat_one' {α : Type} {C : α → List Value} {l : List α} (h : ∀ a, ∀ u ∈ C a, u.oneCell' = true) : ∀ u ∈ l.flatMap C, u.oneCell' = true := fun u hu => by
  obtain ⟨a, _, ha⟩ := List.mem_flatMap.1 hu
  exact h a u ha
theorem flat_inj {α : Type} {C : α → List Value} {k : Nat} {ok : α → Prop} (hC : ∀ {a b}, ok a → ok b → C a = C b → a = b) (hk : ∀ {a}, ok a → (C a).length = k) : ∀ {l m : List α}, l.length = m.length → (∀ a ∈ l, ok a) → (∀ a ∈ m, ok a) → l.flatMap C = m.flatMap C → l = m
  | [], [], _, _, _, _ => rfl
  | [], _ :: _, h, _, _, _ => by simp at h
  | _ :: _, [], h, _, _, _ => by simp at h
  | a :: r, b :: s, h, h1, h2, e => by
    simp only [List.flatMap_cons] at e
    obtain ⟨e1, e2⟩ := List.append_inj e (by rw [hk (h1 a (by simp)), hk (h2 b (by simp))])
    rw [hC (h1 a (by simp)) (h2 b (by simp)) e1, flat_inj hC hk (by simpa using h) (fun c hc => h1 c (by simp [hc])) (fun c hc => h2 c (by simp [hc])) e2]
theorem flat_at {α : Type} {C : α → List Value} {k i o : Nat} {l : List α} {a : α} (hk : ∀ a ∈ l, (C a).length = k) (ha : l[i]? = some a) (ho : o = i * k) : ((l.flatMap C).drop o).take k = C a := by
  subst ho
  exact flat_drop hk ha
theorem flat_set {α : Type} {C : α → List Value} {k : Nat} {a : α} : ∀ {l : List α} {i o : Nat}, (∀ a ∈ l, (C a).length = k) → (C a).length = k → i < l.length → o = i * k → splice (l.flatMap C) o (C a) = (l.set i a).flatMap C
  | [], i, o, _, _, h, _ => by simp at h
  | b :: r, 0, o, hk, ha, _, ho => by
    subst ho
    have hb := hk b (by simp)
    simp only [List.flatMap_cons, List.set_cons_zero, Nat.zero_mul, splice, List.take_zero, List.nil_append, Nat.zero_add]
    rw [List.drop_append_of_le_length (by omega), ha, ← hb, List.drop_length, List.nil_append]
  | b :: r, i + 1, o, hk, ha, h, ho => by
    subst ho
    have hb := hk b (by simp)
    have ih := flat_set (l := r) (i := i) (a := a) (fun c hc => hk c (by simp [hc])) ha (by simpa using h) rfl
    simp only [List.flatMap_cons, List.set_cons_succ]
    rw [← ih]
    have e : (i + 1) * k = (C b).length + i * k := by rw [hb, Nat.succ_mul]; omega
    rw [e]
    simp only [splice, List.take_append, List.drop_append, List.append_assoc]
    rw [List.take_of_length_le (by omega), List.drop_eq_nil_of_le (show (C b).length ≤ (C b).length + i * k + (C a).length by omega)]
    simp only [List.nil_append, Nat.add_sub_cancel_left]
    rw [show (C b).length + i * k + (C a).length - (C b).length = i * k + (C a).length by omega]
theorem oks_flat {α : Type} {w : World} {C : α → List Value} {ok : α → Prop} {ks : List CK} (h : ∀ {a}, ok a → CK.oks w ks (C a)) : ∀ {l : List α}, (∀ a ∈ l, ok a) → CK.oks w (rep l.length ks) (l.flatMap C)
  | [], _ => by simp only [List.length_nil, rep, List.flatMap_nil, CK.oks]
  | a :: r, hl => by
    have h1 := oks_flat (l := r) h fun b hb => hl b (by simp [hb])
    simp only [List.length_cons, rep, List.flatMap_cons]
    exact CK.oks_append w _ _ _ _ (h (hl a (by simp))) h1
theorem oks_arr {α : Type} {w : World} {C : α → List Value} {ok : α → Prop} {ks : List CK} (h : ∀ {a}, ok a → CK.oks w ks (C a)) {n : Nat} {l : List α} (hl : ArrOk n ok l) : CK.oks w (rep n ks) (l.flatMap C) := by
  have := oks_flat (w := w) h hl.mem
  rwa [hl.len] at this
theorem arr_view {α : Type} {w : World} {ks : List CK} {f : α → List Value} {p : α → Prop} (hf : ∀ vs, CK.oks w ks vs → ∃ a, vs = f a ∧ p a) : ∀ (n : Nat) (vs : List Value), CK.oks w (rep n ks) vs → ∃ l, vs = l.flatMap f ∧ ArrOk n p l
  | 0, vs, h => by
    simp only [rep, CK.oks] at h
    exact ⟨[], by simp [h], rfl, by simp⟩
  | n + 1, vs, h => by
    simp only [rep] at h
    obtain ⟨h1, h2⟩ := oks_split ks (rep n ks) vs h
    obtain ⟨a, ha, pa⟩ := hf _ h1
    obtain ⟨l, hl, pl⟩ := arr_view hf n _ h2
    refine ⟨a :: l, ?_, by simp [pl.len], ?_⟩
    · rw [List.flatMap_cons, ← ha, ← hl, List.take_append_drop]
    · intro b hb
      rcases List.mem_cons.1 hb with rfl | hb
      · exact pa
      · exact pl.mem b hb
theorem oks_one_u8 {w : World} {x : Nat} (h : x < 256) : CK.oks w [.int .u8] [.int .u8 (x : Int)] := oks1 (wf8 h) (oks0 w)
theorem oks_one_u32 {w : World} {x : Nat} (h : x < 4294967296) : CK.oks w [.int .u32] [.int .u32 (x : Int)] := oks1 (wf32 h) (oks0 w)
theorem oks_one_u64 {w : World} {x : Nat} (h : x < 18446744073709551616) : CK.oks w [.int .u64] [.int .u64 (x : Int)] := oks1 (wf64 h) (oks0 w)
theorem oks_one_i64 {w : World} {x : Int} (h : -9223372036854775808 ≤ x ∧ x ≤ 9223372036854775807) : CK.oks w [.int .i64] [.int .i64 x] := ⟨_, _, rfl, ⟨_, rfl, by simp [Lit.wf, IntKind.min, IntKind.max, IntKind.signed, IntKind.bits]; omega⟩, oks0 w⟩
theorem oks_one_bool {w : World} {b : Bool} (h : True) : CK.oks w [.bool] [.bool b] := ⟨_, _, rfl, ⟨b, rfl⟩, oks0 w⟩
end Go.Sx
