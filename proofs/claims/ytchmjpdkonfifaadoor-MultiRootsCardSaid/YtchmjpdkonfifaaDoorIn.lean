/- What comes in: a value of plain data, opened by its kinds, cell for cell; and the words for bytes, rows of bytes and the like. My own text. -/
import Derived.Test.YtchmjpdkonfifaaDoorPl
import Derived.Deep.Slices
import Derived.OpenShut
import Derived.ChangeOld
namespace Go.Sx
open Go.ChangeShapes Go.WideShapes
/-- What one cell may hold. -/
inductive CK where
  | int (k : IntKind)
  | bool
  | str
  | sl (ks : List CK)
mutual
def CK.ok (w : World) : CK → Value → Prop
  | .int k, v => ∃ z, v = .int k z ∧ (Lit.int k z).wf = true
  | .bool, v => ∃ b, v = .bool b
  | .str, v => ∃ s : ByteArray, v = .string s ∧ s.size ≤ maxLen
  | .sl ks, v => ∃ A n c, ∃ xs : List Value, v = .slice A n c ∧ n ≤ c ∧ c ≤ maxLen ∧ Rd w A xs ∧ xs.length = n * ks.length ∧ ∀ i, i < n → CK.oks w ks ((xs.drop (i * ks.length)).take ks.length)
def CK.oks (w : World) : List CK → List Value → Prop
  | [], vs => vs = []
  | k :: ks, vs => ∃ v r, vs = v :: r ∧ CK.ok w k v ∧ CK.oks w ks r
end
theorem CK.oks_length (w : World) : ∀ (ks : List CK) (vs : List Value), CK.oks w ks vs → vs.length = ks.length
  | [], vs, h => by simp [CK.oks] at h; simp [h]
  | k :: ks, vs, h => by
    simp only [CK.oks] at h
    obtain ⟨v, r, rfl, _, hr⟩ := h
    simp [CK.oks_length w ks r hr]
theorem CK.oks_append (w : World) : ∀ (ks ls : List CK) (vs us : List Value), CK.oks w ks vs → CK.oks w ls us → CK.oks w (ks ++ ls) (vs ++ us)
  | [], ls, vs, us, h, h' => by simp [CK.oks] at h; simpa [h] using h'
  | k :: ks, ls, vs, us, h, h' => by
    simp only [CK.oks] at h
    obtain ⟨v, r, rfl, hv, hr⟩ := h
    simp only [List.cons_append, CK.oks]
    exact ⟨v, r ++ us, rfl, hv, CK.oks_append w ks ls r us hr h'⟩
/-- The kinds of a type's cells. -/
def rep {α : Type} : Nat → List α → List α
  | 0, _ => []
  | n + 1, l => l ++ rep n l
def kinF (P : Program) (kin : TypeId → Option (List CK)) : List Field → Nat → Option (List CK)
  | [], _ => some []
  | f :: r, a => (kin f.type).bind fun ks => if f.offset = a ∧ P.cellsOf f.type = ks.length then (kinF P kin r (a + ks.length)).map (ks ++ ·) else none
def kin (P : Program) : Nat → TypeId → Option (List CK)
  | 0, _ => none
  | n + 1, t => match P.underlying t with
    | some (.int k) => some [.int k]
    | some .bool => some [.bool]
    | some .string => some [.str]
    | some (.slice e) => (kin P n e).bind fun ks => if P.cellsOf e = ks.length ∧ 0 < ks.length then some [.sl ks] else none
    | some (.array m e) => (kin P n e).bind fun ks => if P.cellsOf e = ks.length ∧ P.cellsOf t = m * ks.length then some (rep m ks) else none
    | some (.struct fs) => (kinF P (kin P n) fs.toList 0).bind fun ks => if P.cellsOf t = ks.length then some ks else none
    | _ => none
def aggT (P : Program) (t : TypeId) : Bool :=
  match P.underlying t with
  | some (.struct _) => true
  | some (.array _ _) => true
  | _ => false
theorem oks_rep (w : World) (ks : List CK) : ∀ (m : Nat) (vs : List Value), vs.length = m * ks.length → (∀ i, i < m → CK.oks w ks ((vs.drop (i * ks.length)).take ks.length)) → CK.oks w (rep m ks) vs
  | 0, vs, h, _ => by simp at h; simp [rep, CK.oks, h]
  | m + 1, vs, h, hi => by
    have h0 := hi 0 (by omega)
    simp only [Nat.zero_mul, List.drop_zero] at h0
    have := CK.oks_append w ks (rep m ks) _ _ h0 (oks_rep w ks m (vs.drop ks.length) (by rw [List.length_drop, h, Nat.add_mul]; omega) fun i hm => by
      have := hi (i + 1) (by omega)
      rwa [List.drop_drop, Nat.add_comm ks.length, ← Nat.succ_mul])
    rwa [List.take_append_drop] at this
section
variable {H : Type} {enc : TypeId × Value → H} {P : Program} {w : World} {base : Nat} {spare : Nat → Bool} {held : Bool}
theorem kinF_ok {kn : TypeId → Option (List CK)} {m : Nat} (ih : ∀ t ks cs x, kn t = some ks → DataW.trod enc P w base spare held m t cs = some x → CK.oks w ks cs) :
    ∀ (fs : List Field) (a : Nat) (ks : List CK) (cs : List Value), kinF P kn fs a = some ks → cs.length = a + ks.length →
      (∀ f ∈ fs, ∃ x, DataW.trod enc P w base spare held m f.type ((cs.drop f.offset).take (P.cellsOf f.type)) = some x) → CK.oks w ks (cs.drop a)
  | [], a, ks, cs, h, hl, _ => by
    simp only [kinF, Option.some.injEq] at h
    subst h
    simp only [List.length_nil, Nat.add_zero] at hl
    simp [CK.oks, hl]
  | f :: r, a, ks, cs, h, hl, hf => by
    simp only [kinF, Option.bind_eq_some_iff] at h
    obtain ⟨k1, h1, h2⟩ := h
    split at h2
    · rename_i hc
      simp only [Option.map_eq_some_iff] at h2
      obtain ⟨k2, h3, rfl⟩ := h2
      obtain ⟨x, hx⟩ := hf f (by simp)
      have o1 := ih _ _ _ _ h1 hx
      rw [hc.1, hc.2] at o1
      have o2 := kinF_ok ih r (a + k1.length) k2 cs h3 (by simp at hl; omega) fun g hg => hf g (by simp [hg])
      have := CK.oks_append w k1 k2 _ _ o1 o2
      rwa [← List.drop_drop, List.take_append_drop] at this
    · cases h2
theorem kin_ok : ∀ (n m : Nat) (t : TypeId) (ks : List CK) (cs : List Value) (x : DataW H × List MemPlace), kin P n t = some ks → DataW.trod enc P w base spare held m t cs = some x → CK.oks w ks cs
  | 0, _, _, _, _, _, h, _ => by simp [kin] at h
  | n + 1, m, t, ks, cs, x, h, hx => by
    unfold kin at h
    split at h
    · rename_i k ht
      simp only [Option.some.injEq] at h
      subst h
      obtain ⟨z, rfl, _, hw⟩ := DataW.trod_int ht hx
      exact ⟨_, _, rfl, ⟨z, rfl, hw⟩, rfl⟩
    · rename_i ht
      simp only [Option.some.injEq] at h
      subst h
      obtain ⟨z, rfl, _⟩ := DataW.trod_bool ht hx
      exact ⟨_, _, rfl, ⟨z, rfl⟩, rfl⟩
    · rename_i ht
      simp only [Option.some.injEq] at h
      subst h
      obtain ⟨z, rfl, _, hs⟩ := DataW.trod_string ht hx
      exact ⟨_, _, rfl, ⟨z, rfl, hs⟩, rfl⟩
    · rename_i e ht
      simp only [Option.bind_eq_some_iff] at h
      obtain ⟨k1, h1, h2⟩ := h
      split at h2
      · rename_i hc
        simp only [Option.some.injEq] at h2
        subst h2
        rcases Go.Deep.open_slice ht hx with ⟨rfl, _⟩ | ⟨a, len, cap, mm, q, D, Pl, rfl, hb, hl, hm, hmm, _, hi⟩
        · refine ⟨_, _, rfl, ?_, rfl⟩
          simp only [CK.ok]
          exact ⟨none, 0, 0, [], rfl, Nat.le_refl _, Nat.zero_le _, Rd.nil _ _, by simp, fun i hi => by omega⟩
        · refine ⟨_, _, rfl, ?_, rfl⟩
          simp only [CK.ok]
          have hle : len ≤ mm := by rw [hmm]; split <;> omega
          have each : ∀ i, i < len → ∃ row : List Value, row.length = k1.length ∧ (∀ j, j < k1.length → w.cell? (a.add (i * k1.length + j)) = row[j]?) ∧ CK.oks w k1 row := by
            intro i hil
            obtain ⟨cs', h3, h4⟩ := hi i (by omega)
            obtain ⟨_, hl3, hc3⟩ := World.cells?_some h3
            rw [hc.1] at hl3
            refine ⟨cs', hl3, fun j hj => ?_, kin_ok n _ e k1 cs' _ h1 h4⟩
            have := hc3 j (by omega)
            rw [hc.1, Go.Deep.add_add] at this
            exact this
          obtain ⟨row, hrow⟩ := Go.Deep.choose_lt each
          have hk := hc.2
          have hlen : ((List.range (len * k1.length)).map fun j => (row (j / k1.length)).getD (j % k1.length) (.bool false)).length = len * k1.length := by simp
          have hrw : ∀ i, i < len → ((((List.range (len * k1.length)).map fun j => (row (j / k1.length)).getD (j % k1.length) (.bool false)).drop (i * k1.length)).take k1.length) = row i := by
            intro i hil
            apply List.ext_getElem?
            intro j
            rcases Nat.lt_or_ge j k1.length with hj | hj
            · have h5 : i * k1.length + j < len * k1.length := by
                have : (i + 1) * k1.length ≤ len * k1.length := Nat.mul_le_mul_right _ hil
                rw [Nat.succ_mul] at this
                omega
              rw [List.getElem?_take_of_lt hj, List.getElem?_drop, List.getElem?_map, List.getElem?_range h5]
              have h6 : (i * k1.length + j) / k1.length = i := by
                rw [Nat.add_comm, Nat.add_mul_div_right _ _ hk, Nat.div_eq_of_lt hj, Nat.zero_add]
              have h7 : (i * k1.length + j) % k1.length = j := by
                rw [Nat.add_comm, Nat.add_mul_mod_self_right, Nat.mod_eq_of_lt hj]
              have h8 := (hrow i hil).1
              simp only [Option.map_some, h6, h7]
              rw [List.getD, List.getElem?_eq_getElem (by omega)]
              rfl
            · have h8 := (hrow i hil).1
              rw [List.getElem?_eq_none (by simp; omega), List.getElem?_eq_none (by omega)]
          refine ⟨some a, len, cap, _, rfl, hl, hm, ?_, hlen, fun i hil => by rw [hrw i hil]; exact (hrow i hil).2.2⟩
          intro j u hj
          refine ⟨a, rfl, ?_⟩
          have hj' : j < len * k1.length := by
            obtain ⟨h1', _⟩ := List.getElem?_eq_some_iff.1 hj
            rw [hlen] at h1'
            exact h1'
          have h9 : j / k1.length < len := Nat.div_lt_of_lt_mul (by rw [Nat.mul_comm]; exact hj')
          have h10 := (hrow _ h9).2.1 (j % k1.length) (Nat.mod_lt _ hk)
          have h11 : j / k1.length * k1.length + j % k1.length = j := by rw [Nat.mul_comm]; exact Nat.div_add_mod j k1.length
          rw [h11] at h10
          rw [h10]
          rw [List.getElem?_map, List.getElem?_range hj'] at hj
          have h8 := (hrow _ h9).1
          have h12 := Nat.mod_lt j hk
          simp only [Option.map_some, Option.some.injEq] at hj
          rw [List.getD, List.getElem?_eq_getElem (by omega)] at hj
          rw [List.getElem?_eq_getElem (by omega), ← hj]
          rfl
      · cases h2
    · rename_i mm e ht
      simp only [Option.bind_eq_some_iff] at h
      obtain ⟨k1, h1, h2⟩ := h
      split at h2
      · rename_i hc
        simp only [Option.some.injEq] at h2
        subst h2
        obtain ⟨xs, q, _, _, hl, hxl, hi⟩ := DataW.trod_array ht hx
        refine oks_rep w k1 mm cs (by rw [hl, hc.2]) fun i him => ?_
        have := hi i him
        rw [List.getElem?_eq_getElem (by omega)] at this
        have := kin_ok n _ e k1 _ _ h1 this
        rwa [hc.1] at this
      · cases h2
    · rename_i fs ht
      simp only [Option.bind_eq_some_iff] at h
      obtain ⟨k1, h1, h2⟩ := h
      split at h2
      · rename_i hc
        simp only [Option.some.injEq] at h2
        subst h2
        obtain ⟨xs, q, _, _, hl, hxl, hi⟩ := DataW.trod_struct ht hx
        have := kinF_ok (enc := enc) (P := P) (w := w) (base := base) (spare := spare) (held := held) (kn := kin P n) (m := q) (fun t ks cs x h hx => kin_ok n q t ks cs x h hx) fs.toList 0 _ cs h1 (by rw [hl, hc]; omega) fun f hf => by
          obtain ⟨i, hil⟩ := List.getElem?_of_mem hf
          have hil' : fs[i]? = some f := by simpa using hil
          have h3 := hi i f hil'
          have h4 : i < xs.length := by
            rw [hxl]
            exact (Array.getElem?_eq_some_iff.1 hil').1
          rw [List.getElem?_eq_getElem h4] at h3
          exact ⟨_, h3⟩
        simpa using this
      · cases h2
    · cases h
theorem came_one {r : Reach} {b0 n : Nat} {t : TypeId} {k : CK} {v : Value} {d : DataW H} {ps : List MemPlace} (hk : kin P n t = some [k]) (ha : aggT P t = false) (hval : Value.okWide P w r b0 t v) (hd : DataW.Trod enc P w base spare held t v d ps) : CK.ok w k v := by
  obtain ⟨m, hm⟩ := hd
  have ho := kin_ok n m t [k] _ _ hk hm
  obtain ⟨v0, r0, h0, h1, h2⟩ := ho
  have hc : v.cells.toList = [v] := by
    cases n with
    | zero => simp [kin] at hk
    | succ n =>
      unfold kin at hk
      split at hk
      · rename_i ht; obtain ⟨_, rfl⟩ := okWide_int ht hval; rfl
      · rename_i ht; obtain ⟨_, rfl⟩ := okWide_bool ht hval; rfl
      · rename_i ht; obtain ⟨_, rfl⟩ := okWide_string ht hval; rfl
      · rename_i ht; obtain ⟨_, _, _, rfl⟩ := okWide_slice ht hval; rfl
      · rename_i ht; simp [aggT, ht] at ha
      · rename_i ht; simp [aggT, ht] at ha
      · cases hk
  rw [hc] at h0
  injection h0 with h3 h4
  subst h3
  exact h1
theorem came_agg {r : Reach} {b0 n : Nat} {t : TypeId} {ks : List CK} {v : Value} {d : DataW H} {ps : List MemPlace} (hk : kin P n t = some ks) (ha : aggT P t = true) (hval : Value.okWide P w r b0 t v) (hd : DataW.Trod enc P w base spare held t v d ps) :
    ∃ cs : List Value, v = .agg cs.toArray ∧ CK.oks w ks cs := by
  obtain ⟨m, hm⟩ := hd
  have ho := kin_ok n m t ks _ _ hk hm
  have : ∃ cs, v = .agg cs := by
    unfold aggT at ha
    unfold Value.okWide at hval
    split at hval
    · obtain ⟨cs, h, _⟩ := hval; exact ⟨cs, h⟩
    · obtain ⟨cs, h, _⟩ := hval; exact ⟨cs, h⟩
    · exfalso
      split at ha
      all_goals first | (cases ha; done) | (simp_all; done)
  obtain ⟨cs, rfl⟩ := this
  exact ⟨cs.toList, by simp, ho⟩
end
/-! ### Views -/
theorem chunks {α : Type} (w : World) (ks : List CK) (f : α → List Value) (good : α → Prop) (hf : ∀ vs, CK.oks w ks vs → ∃ a, vs = f a ∧ good a) :
    ∀ (n : Nat) (xs : List Value), xs.length = n * ks.length → (∀ i, i < n → CK.oks w ks ((xs.drop (i * ks.length)).take ks.length)) → ∃ as : List α, as.length = n ∧ xs = as.flatMap f ∧ ∀ a ∈ as, good a
  | 0, xs, h, _ => by simp at h; exact ⟨[], rfl, by simp [h], by simp⟩
  | n + 1, xs, h, hi => by
    have h0 := hi 0 (by omega)
    simp only [Nat.zero_mul, List.drop_zero] at h0
    obtain ⟨a, ha, hg⟩ := hf _ h0
    obtain ⟨as, h1, h2, h3⟩ := chunks w ks f good hf n (xs.drop ks.length) (by rw [List.length_drop, h, Nat.add_mul]; omega) fun i hm => by
      have := hi (i + 1) (by omega)
      rwa [List.drop_drop, Nat.add_comm ks.length, ← Nat.succ_mul]
    refine ⟨a :: as, by simp [h1], ?_, ?_⟩
    · rw [List.flatMap_cons, ← h2, ← ha, List.take_append_drop]
    · intro b hb
      rcases List.mem_cons.1 hb with rfl | hb
      · exact hg
      · exact h3 b hb
theorem sl_view {α : Type} {w : World} {ks : List CK} {v : Value} (h : CK.ok w (.sl ks) v) (f : α → List Value) (good : α → Prop) (hf : ∀ vs, CK.oks w ks vs → ∃ a, vs = f a ∧ good a) :
    ∃ A c, ∃ as : List α, v = .slice A as.length c ∧ as.length ≤ c ∧ c ≤ maxLen ∧ Rd w A (as.flatMap f) ∧ ∀ a ∈ as, good a := by
  simp only [CK.ok] at h
  obtain ⟨A, n, c, xs, rfl, h1, h2, h3, h4, h5⟩ := h
  obtain ⟨as, rfl, rfl, h6⟩ := chunks w ks f good hf n xs h4 h5
  exact ⟨A, c, as, rfl, h1, h2, h3, h6⟩
theorem ok_u8 {w : World} {v : Value} (h : CK.ok w (.int .u8) v) : ∃ b : UInt8, v = byteV b := by
  obtain ⟨z, rfl, hz⟩ := h
  simp [Lit.wf, IntKind.min, IntKind.max, IntKind.signed, IntKind.bits] at hz
  refine ⟨UInt8.ofNat z.toNat, ?_⟩
  have : (UInt8.ofNat z.toNat).toNat = z.toNat := by simp; omega
  rw [byteV, this]
  congr 1
  omega
theorem ok_u8n {w : World} {v : Value} (h : CK.ok w (.int .u8) v) : ∃ n : Nat, n < 256 ∧ v = .int .u8 (n : Int) := by
  obtain ⟨z, rfl, hz⟩ := h
  simp [Lit.wf, IntKind.min, IntKind.max, IntKind.signed, IntKind.bits] at hz
  exact ⟨z.toNat, by omega, by congr 1; omega⟩
theorem ok_u32 {w : World} {v : Value} (h : CK.ok w (.int .u32) v) : ∃ n : Nat, n < 4294967296 ∧ v = .int .u32 (n : Int) := by
  obtain ⟨z, rfl, hz⟩ := h
  simp [Lit.wf, IntKind.min, IntKind.max, IntKind.signed, IntKind.bits] at hz
  exact ⟨z.toNat, by omega, by congr 1; omega⟩
theorem ok_u64 {w : World} {v : Value} (h : CK.ok w (.int .u64) v) : ∃ n : Nat, n < 18446744073709551616 ∧ v = .int .u64 (n : Int) := by
  obtain ⟨z, rfl, hz⟩ := h
  simp [Lit.wf, IntKind.min, IntKind.max, IntKind.signed, IntKind.bits] at hz
  exact ⟨z.toNat, by omega, by congr 1; omega⟩
theorem ok_i64 {w : World} {v : Value} (h : CK.ok w (.int .i64) v) : ∃ z : Int, -9223372036854775808 ≤ z ∧ z ≤ 9223372036854775807 ∧ v = .int .i64 z := by
  obtain ⟨z, rfl, hz⟩ := h
  simp [Lit.wf, IntKind.min, IntKind.max, IntKind.signed, IntKind.bits] at hz
  exact ⟨z, by omega, by omega, rfl⟩
theorem bytesV_flat (l : List UInt8) : l.flatMap (fun b => [byteV b]) = bytesV l := by
  induction l with
  | nil => rfl
  | cons a r ih => rw [List.flatMap_cons, ih]; rfl
theorem ok_bytes {w : World} {v : Value} (h : CK.ok w (.sl [.int .u8]) v) : ∃ A c, ∃ l : List UInt8, v = .slice A l.length c ∧ l.length ≤ c ∧ c ≤ maxLen ∧ Rd w A (bytesV l) := by
  obtain ⟨A, c, l, h1, h2, h3, h4, _⟩ := sl_view h (fun b => [byteV b]) (fun _ => True) (fun vs hv => by
    obtain ⟨v, r, rfl, h5, h6⟩ := hv
    simp only [CK.oks] at h6
    subst h6
    obtain ⟨b, rfl⟩ := ok_u8 h5
    exact ⟨b, rfl, trivial⟩)
  rw [bytesV_flat] at h4
  exact ⟨A, c, l, h1, h2, h3, h4⟩
theorem flat_one {α : Type} (l : List α) (f : α → Value) : l.flatMap (fun b => [f b]) = l.map f := by
  induction l with
  | nil => rfl
  | cons a r ih => rw [List.flatMap_cons, ih]; rfl
theorem ok_parts {w : World} {v : Value} (h : CK.ok w (.sl [.sl [.int .u8]]) v) : ∃ A c, ∃ l : List SV, v = .slice A l.length c ∧ l.length ≤ c ∧ c ≤ maxLen ∧ RdP w A l ∧ ∀ p ∈ l, p.l.length ≤ maxLen := by
  obtain ⟨A, c, l, h1, h2, h3, h4, h7⟩ := sl_view h (fun p => [svV p]) (fun p => p.l.length ≤ maxLen ∧ Rd w p.A (bytesV p.l)) (fun vs hv => by
    obtain ⟨v, r, rfl, h5, h6⟩ := hv
    simp only [CK.oks] at h6
    subst h6
    obtain ⟨A, c, l, rfl, h8, h9, h10⟩ := ok_bytes h5
    exact ⟨⟨A, c, l⟩, rfl, by show l.length ≤ _; omega, h10⟩)
  rw [flat_one] at h4
  exact ⟨A, c, l, h1, h2, h3, ⟨h4, fun p hp => (h7 p hp).2⟩, fun p hp => (h7 p hp).1⟩
theorem oks_u8s {w : World} : ∀ (m : Nat) (cs : List Value), CK.oks w (rep m [.int .u8]) cs → ∃ l : List UInt8, l.length = m ∧ cs = bytesV l
  | 0, cs, h => ⟨[], rfl, by simp only [rep, CK.oks] at h; subst h; rfl⟩
  | m + 1, cs, h => by
    obtain ⟨v, r, rfl, h1, h2⟩ := h
    obtain ⟨b, rfl⟩ := ok_u8 h1
    obtain ⟨l, h3, rfl⟩ := oks_u8s m r h2
    exact ⟨b :: l, by simp [h3], rfl⟩
theorem oks_u64s {w : World} : ∀ (m : Nat) (cs : List Value), CK.oks w (rep m [.int .u64]) cs → ∃ l : List Nat, l.length = m ∧ (∀ x ∈ l, x < 18446744073709551616) ∧ cs = intV l
  | 0, cs, h => ⟨[], rfl, by simp, by simp only [rep, CK.oks] at h; subst h; rfl⟩
  | m + 1, cs, h => by
    obtain ⟨v, r, rfl, h1, h2⟩ := h
    obtain ⟨n, hn, rfl⟩ := ok_u64 h1
    obtain ⟨l, h3, h4, rfl⟩ := oks_u64s m r h2
    exact ⟨n :: l, by simp [h3], by simpa [hn] using h4, rfl⟩
end Go.Sx
