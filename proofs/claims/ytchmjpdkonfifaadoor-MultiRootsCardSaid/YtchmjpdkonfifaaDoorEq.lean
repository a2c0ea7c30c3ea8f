/- Values that are rows of plain cells: what == comes to. My own text. -/
import Derived.Test.YtchmjpdkonfifaaDoorIn
import Derived.DeepKeys
namespace Go.Sx
def litOf : Value → Lit
  | .int k z => .int k z
  | .bool b => .bool b
  | .string s => .string s.data.toList
  | _ => .bool false
def scal : List CK → Bool
  | [] => true
  | .sl _ :: _ => false
  | _ :: r => scal r
theorem scal_append : ∀ (a b : List CK), scal (a ++ b) = (scal a && scal b)
  | [], b => by simp [scal]
  | .int _ :: r, b => by simp [scal, scal_append r b]
  | .bool :: r, b => by simp [scal, scal_append r b]
  | .str :: r, b => by simp [scal, scal_append r b]
  | .sl _ :: r, b => by simp [scal]
theorem litOf_inj {w : World} : ∀ (ks : List CK) (xs ys : List Value), scal ks = true → CK.oks w ks xs → CK.oks w ks ys → xs.map litOf = ys.map litOf → xs = ys
  | [], xs, ys, _, hx, hy, _ => by
    simp only [CK.oks] at hx hy
    rw [hx, hy]
  | k :: ks, xs, ys, hs, hx, hy, he => by
    obtain ⟨x, xr, rfl, hx1, hx2⟩ := hx
    obtain ⟨y, yr, rfl, hy1, hy2⟩ := hy
    simp only [List.map_cons, List.cons.injEq] at he
    have hs' : scal ks = true := by cases k <;> simp_all [scal]
    rw [litOf_inj ks xr yr hs' hx2 hy2 he.2]
    congr 1
    cases k with
    | int k =>
      obtain ⟨z, rfl, _⟩ := hx1
      obtain ⟨z', rfl, _⟩ := hy1
      have := he.1
      simp only [litOf, Lit.int.injEq, true_and] at this
      rw [this]
    | bool =>
      obtain ⟨z, rfl⟩ := hx1
      obtain ⟨z', rfl⟩ := hy1
      have := he.1
      simp only [litOf, Lit.bool.injEq] at this
      rw [this]
    | str =>
      obtain ⟨z, rfl, _⟩ := hx1
      obtain ⟨z', rfl, _⟩ := hy1
      have := he.1
      simp only [litOf, Lit.string.injEq] at this
      congr 1
      apply ByteArray.ext
      apply Array.toList_inj.1
      exact this
    | sl _ => simp [scal] at hs
theorem oks_split {w : World} : ∀ (ks ls : List CK) (vs : List Value), CK.oks w (ks ++ ls) vs → CK.oks w ks (vs.take ks.length) ∧ CK.oks w ls (vs.drop ks.length)
  | [], ls, vs, h => by simpa [CK.oks] using h
  | k :: ks, ls, vs, h => by
    simp only [List.cons_append, CK.oks] at h
    obtain ⟨v, r, rfl, hv, hr⟩ := h
    obtain ⟨h1, h2⟩ := oks_split ks ls r hr
    simp only [List.length_cons, List.take_succ_cons, List.drop_succ_cons, CK.oks]
    exact ⟨⟨v, _, rfl, hv, h1⟩, h2⟩
theorem rep_length {α : Type} : ∀ (m : Nat) (l : List α), (rep m l).length = m * l.length
  | 0, l => by simp [rep]
  | m + 1, l => by simp [rep, rep_length m l, Nat.succ_mul, Nat.add_comm]
theorem oks_at {w : World} {ks : List CK} : ∀ (m : Nat) (vs : List Value), CK.oks w (rep m ks) vs → ∀ i, i < m → CK.oks w ks ((vs.drop (i * ks.length)).take ks.length)
  | 0, vs, h, i, hi => absurd hi (Nat.not_lt_zero _)
  | m + 1, vs, h, i, hi => by
    obtain ⟨h1, h2⟩ := oks_split ks (rep m ks) vs h
    cases i with
    | zero => simpa using h1
    | succ i =>
      have := oks_at m _ h2 i (by omega)
      rwa [List.drop_drop, Nat.add_comm ks.length, ← Nat.succ_mul] at this
theorem scal_rep : ∀ (m : Nat) (ks : List CK), 0 < m → scal (rep m ks) = true → scal ks = true
  | m + 1, ks, _, h => by
    simp only [rep, scal_append, Bool.and_eq_true] at h
    exact h.1
section
variable {P : Program} {w : World}
theorem keyF_of {kn : TypeId → Option (List CK)} {kl : TypeId → List Value → Option (List Lit)} (ih : ∀ t ks cs, kn t = some ks → scal ks = true → CK.oks w ks cs → kl t cs = some (cs.map litOf)) :
    ∀ (fs : List Field) (a : Nat) (ks : List CK) (cs : List Value), kinF P kn fs a = some ks → scal ks = true → CK.oks w ks (cs.drop a) →
      ∃ ls, fs.mapM (fun f => kl f.type ((cs.drop f.offset).take (P.cellsOf f.type))) = some ls ∧ ls.flatten = (cs.drop a).map litOf
  | [], a, ks, cs, h, _, ho => by
    simp only [kinF, Option.some.injEq] at h
    subst h
    simp only [CK.oks] at ho
    exact ⟨[], by simp, by simp [ho]⟩
  | f :: r, a, ks, cs, h, hs, ho => by
    simp only [kinF, Option.bind_eq_some_iff] at h
    obtain ⟨k1, h1, h2⟩ := h
    split at h2
    · rename_i hc
      simp only [Option.map_eq_some_iff] at h2
      obtain ⟨k2, h3, rfl⟩ := h2
      rw [scal_append, Bool.and_eq_true] at hs
      obtain ⟨o1, o2⟩ := oks_split k1 k2 _ ho
      rw [List.drop_drop] at o2
      obtain ⟨ls, hls, hfl⟩ := keyF_of ih r (a + k1.length) k2 cs h3 hs.2 o2
      have h4 := ih _ _ _ h1 hs.1 o1
      refine ⟨((cs.drop a).take k1.length).map litOf :: ls, ?_, ?_⟩
      · rw [List.mapM_cons, hc.1, hc.2, h4, hls]; rfl
      · rw [List.flatten_cons, hfl, ← List.map_append]
        congr 1
        rw [← List.drop_drop, List.take_append_drop]
    · cases h2
theorem key_of : ∀ (n : Nat) (t : TypeId) (ks : List CK) (cs : List Value), kin P n t = some ks → P.keyTypeAt n t = true → scal ks = true → CK.oks w ks cs → P.keyLits n t cs = some (cs.map litOf)
  | 0, _, _, _, h, _, _, _ => by simp [kin] at h
  | n + 1, t, ks, cs, h, hkt, hs, ho => by
    unfold kin at h
    unfold Program.keyTypeAt at hkt
    unfold Program.keyLits
    split at h
    · rename_i k ht
      simp only [Option.some.injEq] at h
      subst h
      obtain ⟨v, r, rfl, ⟨z, rfl, hw⟩, hr⟩ := ho
      simp only [CK.oks] at hr
      subst hr
      simp [ht, hw, litOf]
    · rename_i ht
      simp only [Option.some.injEq] at h
      subst h
      obtain ⟨v, r, rfl, ⟨z, rfl⟩, hr⟩ := ho
      simp only [CK.oks] at hr
      subst hr
      simp [ht, litOf]
    · rename_i ht
      simp only [Option.some.injEq] at h
      subst h
      obtain ⟨v, r, rfl, ⟨z, rfl, hw⟩, hr⟩ := ho
      simp only [CK.oks] at hr
      subst hr
      simp [ht, hw, litOf]
    · simp only [Option.bind_eq_some_iff] at h
      obtain ⟨k1, h1, h2⟩ := h
      split at h2
      · simp only [Option.some.injEq] at h2
        subst h2
        simp [scal] at hs
      · cases h2
    · rename_i mm e ht
      simp only [Option.bind_eq_some_iff] at h
      obtain ⟨k1, h1, h2⟩ := h
      split at h2
      · rename_i hc
        simp only [Option.some.injEq] at h2
        subst h2
        have hl := CK.oks_length w _ _ ho
        rw [rep_length] at hl
        have hke : P.keyTypeAt n e = true := by simpa [ht] using hkt
        simp only [ht]
        rw [if_pos (by rw [hc.2, hl])]
        rcases Nat.eq_zero_or_pos mm with h0 | h0
        · subst h0
          have : cs = [] := List.eq_nil_of_length_eq_zero (by simpa using hl)
          subst this
          simp
        have hsk := scal_rep mm k1 h0 hs
        have each : ∀ i ∈ List.range mm, P.keyLits n e ((cs.drop (i * P.cellsOf e)).take (P.cellsOf e)) = some (((cs.drop (i * k1.length)).take k1.length).map litOf) := fun i hi => by
          rw [hc.1]
          exact key_of n e k1 _ h1 hke hsk (oks_at mm cs ho i (List.mem_range.1 hi))
        have hm : ∀ l : List Nat, (∀ i ∈ l, P.keyLits n e ((cs.drop (i * P.cellsOf e)).take (P.cellsOf e)) = some (((cs.drop (i * k1.length)).take k1.length).map litOf)) →
            l.mapM (fun i => P.keyLits n e ((cs.drop (i * P.cellsOf e)).take (P.cellsOf e))) = some (l.map fun i => ((cs.drop (i * k1.length)).take k1.length).map litOf) := by
          intro l
          induction l with
          | nil => intro _; simp
          | cons a r ih =>
            intro hl
            rw [List.mapM_cons, hl a (by simp), ih fun i hi => hl i (by simp [hi])]
            rfl
        rw [hm _ each]
        simp only [Option.map_some, Option.some.injEq]
        have fl : ∀ (m : Nat) (l : List Value), l.length = m * k1.length → ((List.range m).map fun i => ((l.drop (i * k1.length)).take k1.length).map litOf).flatten = l.map litOf := by
          intro m
          induction m with
          | zero => intro l hl; have : l = [] := List.eq_nil_of_length_eq_zero (by simpa using hl); subst this; simp
          | succ m ih =>
            intro l hl
            have := ih (l.drop k1.length) (by rw [List.length_drop, hl, Nat.succ_mul]; omega)
            rw [List.range_succ_eq_map, List.map_cons, List.map_map, List.flatten_cons]
            have e2 : ((fun i => ((l.drop (i * k1.length)).take k1.length).map litOf) ∘ Nat.succ) = fun i => (((l.drop k1.length).drop (i * k1.length)).take k1.length).map litOf := by
              funext i
              simp only [Function.comp, List.drop_drop, Nat.succ_mul, Nat.add_comm]
            rw [e2, this, Nat.zero_mul, List.drop_zero, ← List.map_append, List.take_append_drop]
        exact fl mm cs hl
      · cases h2
    · rename_i fs ht
      simp only [Option.bind_eq_some_iff] at h
      obtain ⟨k1, h1, h2⟩ := h
      split at h2
      · rename_i hc
        simp only [Option.some.injEq] at h2
        subst h2
        simp only [ht, Bool.and_eq_true] at hkt
        have hall : ∀ f ∈ fs.toList, (f.name != "_") = true ∧ P.keyTypeAt n f.type = true := by
          intro f hf
          have := Array.all_eq_true_iff_forall_mem.1 hkt.1.1 f (by simpa using hf)
          simpa using this
        have hl := CK.oks_length w _ _ ho
        simp only [ht]
        rw [if_pos ⟨by rw [hl, hc], by rw [Array.all_eq_true_iff_forall_mem]; intro f hf; exact (hall f (by simpa using hf)).1⟩]
        have hgen : ∀ (l : List Field) (a : Nat) (ks : List CK), (∀ f ∈ l, P.keyTypeAt n f.type = true) → kinF P (kin P n) l a = some ks → kinF P (fun t => if P.keyTypeAt n t = true then kin P n t else none) l a = some ks := by
          intro l
          induction l with
          | nil => intro a ks _ h; exact h
          | cons f r ih =>
            intro a ks hk h
            simp only [kinF] at h ⊢
            rw [if_pos (hk f (by simp))]
            simp only [Option.bind_eq_some_iff] at h ⊢
            obtain ⟨k1, h1, h2⟩ := h
            refine ⟨k1, h1, ?_⟩
            split at h2
            · rename_i hc
              rw [if_pos hc]
              simp only [Option.map_eq_some_iff] at h2 ⊢
              obtain ⟨k2, h3, rfl⟩ := h2
              exact ⟨k2, ih _ _ (fun f hf => hk f (by simp [hf])) h3, rfl⟩
            · cases h2
        obtain ⟨ls, hls, hfl⟩ := keyF_of (P := P) (w := w) (kn := fun t => if P.keyTypeAt n t = true then kin P n t else none) (kl := fun t cs => P.keyLits n t cs) (fun t ks cs hk hs ho => by
            split at hk
            · rename_i hkt; exact key_of n t ks cs hk hkt hs ho
            · cases hk) fs.toList 0 _ cs (hgen _ _ _ (fun f hf => (hall f hf).2) h1) hs (by simpa using ho)
        rw [hls]
        simpa using hfl
      · cases h2
    · cases h
theorem EqT_of {t : TypeId} {n : Nat} {ks : List CK} {xs ys : List Value} (hk : kin P n t = some ks) (hs : scal ks = true) (hkt : P.keyTypeAt n t = true) (hn : n ≤ 10000) (ha : aggT P t = true) (hg : P.eqGuardType P.depth t = false) (hsz : P.cellsOf t = ks.length)
    (hx : CK.oks w ks xs) (hy : CK.oks w ks ys) : ∃ b, EqT P t xs ys b ∧ (b = true ↔ xs = ys) := by
  have hf : ∀ zs : List Value, CK.oks w ks zs → (Value.agg zs.toArray).formed P t = true := fun zs hz => by
    have hl := CK.oks_length w _ _ hz
    cases hu : P.underlying t with
    | none => simp [aggT, hu] at ha
    | some d => cases d <;> simp_all [aggT, Value.formed]
  have hkx := key_of n t ks xs hk hkt hs hx
  have hky := key_of n t ks ys hk hkt hs hy
  have key := run_equalIn_deep (P := P) (10000 - n) n t hkt
  rw [show 10000 - n + n = 10000 by omega] at key
  have one : ∀ w', ∃ r : Bool, (Op.equalIn 10000 t (.agg xs.toArray) (.agg ys.toArray)).run P w' = .ok r w' ∧ (r = true ↔ xs.map litOf = ys.map litOf) := fun w' =>
    key w' n n (.agg xs.toArray) (.agg ys.toArray) _ _ (hf xs hx) (hf ys hy) (by simpa [Value.cells] using hkx) (by simpa [Value.cells] using hky)
  obtain ⟨r, _, hr⟩ := one w
  refine ⟨r, fun w' => ⟨?_, ?_⟩, hr.trans ⟨litOf_inj ks xs ys hs hx hy, fun e => by rw [e]⟩⟩
  · simp [eqGuard, hg]
  · obtain ⟨r', h1, h2⟩ := one w'
    have : r' = r := by rw [Bool.eq_iff_iff, h2, hr]
    rw [← this]
    exact h1
end
/-! ### Numbers and sums -/
theorem oks_u64 {w : World} : ∀ (a : List Nat), (∀ x ∈ a, x < 18446744073709551616) → CK.oks w (rep a.length [.int .u64]) (intV a)
  | [], _ => by simp [rep, CK.oks, intV]
  | x :: r, h => by
    have hx := h x (by simp)
    refine ⟨_, _, rfl, ⟨(x : Int), rfl, ?_⟩, oks_u64 r fun y hy => h y (by simp [hy])⟩
    simp [Lit.wf, IntKind.min, IntKind.max, IntKind.signed, IntKind.bits]
    omega
theorem oks_u8 {w : World} : ∀ (l : List UInt8), CK.oks w (rep l.length [.int .u8]) (bytesV l)
  | [] => by simp [rep, CK.oks, bytesV]
  | x :: r => by
    have hx := x.toNat_lt
    refine ⟨_, _, rfl, ⟨(x.toNat : Int), rfl, ?_⟩, oks_u8 r⟩
    simp [Lit.wf, IntKind.min, IntKind.max, IntKind.signed, IntKind.bits]
    omega
theorem Int4.mem {a : List Nat} (h : Int4 a) : ∀ x ∈ a, x < 18446744073709551616 := fun x hx => by
  obtain ⟨i, hi⟩ := List.getElem?_of_mem hx
  have := h.2 i
  rw [List.getD, hi] at this
  exact this
theorem intV_inj {a b : List Nat} (h : intV a = intV b) : a = b := by
  have : ∀ (a b : List Nat), intV a = intV b → a = b := by
    intro a
    induction a with
    | nil => intro b h; cases b with
      | nil => rfl
      | cons _ _ => simp [intV] at h
    | cons x r ih => intro b h; cases b with
      | nil => simp [intV] at h
      | cons y s =>
        simp only [intV, List.map_cons, List.cons.injEq, Value.int.injEq, true_and] at h
        rw [show x = y by omega, ih s h.2]
  exact this a b h
theorem bytesV_inj {a b : List UInt8} (h : bytesV a = bytesV b) : a = b := by
  have : ∀ (a b : List UInt8), bytesV a = bytesV b → a = b := by
    intro a
    induction a with
    | nil => intro b h; cases b with
      | nil => rfl
      | cons _ _ => simp [bytesV] at h
    | cons x r ih => intro b h; cases b with
      | nil => simp [bytesV] at h
      | cons y s =>
        simp only [bytesV, List.map_cons, List.cons.injEq, byteV, Value.int.injEq, true_and] at h
        rw [ih s h.2, UInt8.toNat_inj.1 (show x.toNat = y.toNat by omega)]
  exact this a b h
theorem EqT.to {P : Program} {t : TypeId} {xs ys : List Value} {p : Prop} [Decidable p] (h : ∃ b, EqT P t xs ys b ∧ (b = true ↔ xs = ys)) (hp : xs = ys ↔ p) : EqT P t xs ys (decide p) := by
  obtain ⟨b, h1, h2⟩ := h
  have : b = decide p := by rw [Bool.eq_iff_iff, h2, hp, decide_eq_true_iff]
  rw [← this]
  exact h1
end Go.Sx
