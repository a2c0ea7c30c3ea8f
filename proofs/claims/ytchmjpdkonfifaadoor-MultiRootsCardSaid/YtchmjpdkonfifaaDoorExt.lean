/- Calls of what has no body; a string's iterator; the order of bytes. My own text. -/
import Derived.Test.YtchmjpdkonfifaaDoorCod
import Derived.Lib.OthersKept
import Derived.Lib.Bytealg
set_option linter.unusedVariables false
set_option linter.unusedSimpArgs false
namespace Go.Sx
open Go.RowKit
section
variable {P : Program} {n : Nat} {env : Env} {w0 w : World} {F : Nat → Prop} {rs : List Res} {dst : Option Nat} {ty : TypeId} {pos : String} {aft : Array Edge} {g : Option (Nat × Bool)}
theorem Ac.ext {f : FuncId} {fn : Func} {e : Array Value → Sem Value} {args : List Operand} {vs : List Value} {ts : Array TypeId} {v : Value} (hv : evs env args = some vs) (hf : P.funcs[f]? = some fn) (hnm : (fn.name == "runtime.NumGoroutine") = false)
    (hb : fn.body.isNone = true) (hn : Extern.findNext fn = none) (he : Extern.find fn = some e) (hr : (e vs.toArray).run P w = .ok v w) : Ac P n env (Oper.mk dst (.call { callee := .value (.func f), args := args.toArray, argTypes := ts }) ty pos aft g) w fun u w' => u = v ∧ Keep nof w w' :=
  Ac.of_run fun a ha => by
    have h1 := ha.evals hv
    have e1 : args.toArray.map a.eval = vs.toArray := by apply Array.toList_inj.1; simpa using h1
    refine ⟨v, w, ?_, rfl, Keep.refl _ _⟩
    have h2 := run_callFunc_extern hf hnm hb hn he vs.toArray w
    rw [hr] at h2
    simp only [execOp, resolve, e1, Act.eval, Deferred.ofValue, Sem.run_bind, Sem.run_pure, Result.andThen_ok, invoke]
    simpa using h2
theorem run_loadBytes : ∀ (l : List UInt8) (b o : Nat) (acc : ByteArray), (∀ j u, (bytesV l)[j]? = some u → w.cell? ⟨b, o + j, none⟩ = some u) → (Extern.Bytes.loadBytes ⟨b, o, none⟩ l.length acc).run P w = .ok ⟨acc.data ++ l.toArray⟩ w
  | [], b, o, acc, _ => by simp [Extern.Bytes.loadBytes]
  | x :: r, b, o, acc, h => by
    have h0 := h 0 (byteV x) rfl
    rw [Nat.add_zero] at h0
    have ih := run_loadBytes r b (o + 1) (acc.push x) (fun j u hj => by rw [show o + 1 + j = o + (j + 1) by omega]; exact h (j + 1) u hj)
    have e1 : (((x.toNat : Int)).toNat).toUInt8 = x := by simp
    show (Extern.Bytes.loadBytes ⟨b, o, none⟩ (r.length + 1) acc).run P w = _
    unfold Extern.Bytes.loadBytes
    rw [Sem.run_bind, run_load, h0]
    simp only [Result.andThen_ok, byteV, e1]
    rw [show (⟨b, o, none⟩ : Addr).add 1 = ⟨b, o + 1, none⟩ by simp [Addr.add]]
    rw [ih]
    simp [ByteArray.push]
theorem run_cmpB {a b : List UInt8} {ga oa gb ob ca cb : Nat} (ha : Rd w (some ⟨ga, oa, none⟩) (bytesV a)) (hb : Rd w (some ⟨gb, ob, none⟩) (bytesV b)) :
    (Extern.BytealgCompare.compare #[.slice (some ⟨ga, oa, none⟩) a.length ca, .slice (some ⟨gb, ob, none⟩) b.length cb]).run P w = .ok (.int .i64 (Lib.compareBytes a b)) w := by
  change Sem.run P (do pure (goInt (Extern.BytealgCompare.cmp (← Extern.Bytes.bytesOf (.slice (some ⟨ga, oa, none⟩) a.length ca)) (← Extern.Bytes.bytesOf (.slice (some ⟨gb, ob, none⟩) b.length cb))))) w = _
  simp only [Extern.Bytes.bytesOf, Sem.run_bind]
  rw [run_loadBytes a ga oa .empty (fun j u hj => ha.at1 hj)]
  simp only [Result.andThen_ok]
  rw [run_loadBytes b gb ob .empty (fun j u hj => hb.at1 hj)]
  simp only [Result.andThen_ok, Sem.run_pure]
  rw [Lib.cmp_eq]
  simp [goInt]
theorem Ac.mk0 (M : Mem w0 w F rs) {t e : TypeId} {sz bytes : Nat} (h : El P t e sz bytes) {x y : Operand} {k k' : IntKind} {p q : Int} {m : Nat} (hx : ev env x = some (.int k p)) (hy : ev env y = some (.int k' q)) (hp : p = 0) (hq : q = (m : Int)) (hb : bytes * m ≤ 281474976710656) (h63 : m ≤ maxLen) :
    Ac P n env (Oper.mk dst (.makeSlice t x y) ty pos aft g) w fun u w' => ∃ b, u = .slice (some ⟨b, 0, none⟩) 0 m ∧ w.heap.size ≤ b ∧ Keep nof w w' ∧ Mem w0 w' F (row u e sz 0 [] :: rs) :=
  Ac.of_run fun a ha => by
    obtain ⟨ht, hi0, hsz⟩ := h
    obtain ⟨i, hi, hp'⟩ := Option.map_eq_some_iff.1 hi0
    simp only [Prod.mk.injEq] at hp'
    obtain ⟨hp1, hp2, hp3⟩ := hp'
    obtain ⟨z, hzz, _⟩ := Option.map_eq_some_iff.1 hp3
    subst hp; subst hq; subst hp2
    obtain ⟨w', h1, h2, h3⟩ := run_make_own (P := P) w 0 t e i z sz ht hi hzz hp1 k k' m hb h63 (Nat.zero_le _)
    have hK : Keep nof w w' := (Keep.grown h3).mono fun b _ hb => by cases hb
    exact ⟨_, w', by simp [execOp, ha.eval hx, ha.eval hy, h1], w.heap.size, rfl, Nat.le_refl _, hK, M.grow hK h2 (by simp [row, Value.ownBlock])⟩
/-- A string's iterator. -/
def itR (k : Nat) (l : List UInt8) (p : Nat) : Res where
  fp := [k]
  sat w := w.heap[k]? = some (.stringIter ⟨l.toArray⟩ p)
  lt w h b hb := by simp at hb; subst hb; exact lt_of_heap h
  loc w w' h hk := by rw [hk k (by simp)]; exact h
theorem Ac.rangeS (M : Mem w0 w F rs) {t : TypeId} {x : Operand} {l : List UInt8} (ht : P.underlying t = some .string) (hx : ev env x = some (str l)) :
    Ac P n env (Oper.mk dst (.range t x) ty pos aft g) w fun u w' => ∃ k, u = .pointer (some ⟨k, 0, none⟩) ∧ w.heap.size ≤ k ∧ Keep nof w w' ∧ Mem w0 w' F (itR k l 0 :: rs) :=
  Ac.of_run fun a ha => by
    refine ⟨_, w.iter ⟨l.toArray⟩ 0, ?_, w.heap.size, rfl, Nat.le_refl _, Keep.alloc _ _ _, M.grow (r := itR w.heap.size l 0) (Keep.alloc _ _ _) (World.iter_heap _ _ _) (by simp [itR])⟩
    have := run_range_string (P := P) w t ⟨l.toArray⟩ ht
    simp [execOp, ha.eval hx, str, this]
theorem keep_iterAt (w : World) (k : Nat) (s : ByteArray) (p : Nat) : Keep (· ∈ [k]) w (w.iterAt k s p) :=
  ⟨rfl, rfl, rfl, by rw [Lib.iterAt_size]; exact Nat.le_refl _, fun b hb hn => Lib.iterAt_other w k b s p (by simpa using hn)⟩
theorem Ac.nextS (M : Mem w0 w F rs) {x : Operand} {l : List UInt8} {i k p : Nat} {b : UInt8} (hx : ev env x = some (.pointer (some ⟨k, 0, none⟩))) (hi : rs[i]? = some (itR k l p)) (hb : l[p]? = some b) (ha : b.toNat < 128) :
    Ac P n env (Oper.mk dst (.next x true) ty pos aft g) w fun u w' => u = .tuple #[.bool true, .int .i64 (p : Int), .int .i32 (b.toNat : Int)] ∧ Keep (· ∈ [k]) w w' ∧ Mem w0 w' F (rs.set i (itR k l (p + 1))) :=
  Ac.of_run fun a hfit => by
    have hk : w.heap[k]? = some (.stringIter ⟨l.toArray⟩ p) := M.get hi
    obtain ⟨h1, h2⟩ := List.getElem?_eq_some_iff.1 hb
    have h3 : p < (ByteArray.mk l.toArray).size := by simpa [ByteArray.size] using h1
    have e : (ByteArray.mk l.toArray)[p]'h3 = b := by simpa [ByteArray.getElem_eq_getElem_data] using h2
    have hrun := Lib.run_next_ascii_at (P := P) w k ⟨l.toArray⟩ p ty hk h3 (by rw [e]; exact ha)
    rw [e] at hrun
    refine ⟨_, w.iterAt k ⟨l.toArray⟩ (p + 1), ?_, rfl, keep_iterAt _ _ _ _, M.turn hi (keep_iterAt _ _ _ _) (Lib.iterAt_heap w k _ p _ hk) (fun b hb => .inl hb)⟩
    simp [execOp, hfit.eval hx, hrun]
theorem Ac.nextE (M : Mem w0 w F rs) {x : Operand} {l : List UInt8} {i k p : Nat} (hx : ev env x = some (.pointer (some ⟨k, 0, none⟩))) (hi : rs[i]? = some (itR k l p)) (hp : l.length ≤ p) :
    Ac P n env (Oper.mk dst (.next x true) ty pos aft g) w fun u w' => u = .tuple #[.bool false] ∧ Keep nof w w' ∧ Mem w0 w' F rs :=
  Ac.of_run fun a hfit => by
    have hk : w.heap[k]? = some (.stringIter ⟨l.toArray⟩ p) := M.get hi
    have h3 : ¬ p < (ByteArray.mk l.toArray).size := by simpa [ByteArray.size] using hp
    have hrun := Lib.run_next_end_at (P := P) w k ⟨l.toArray⟩ p ty hk h3
    refine ⟨_, w, ?_, rfl, Keep.refl _ _, M⟩
    simp [execOp, hfit.eval hx, hrun]
theorem Ac.nextU (M : Mem w0 w F rs) {x : Operand} {l : List UInt8} {i k p : Nat} (hx : ev env x = some (.pointer (some ⟨k, 0, none⟩))) (hi : rs[i]? = some (itR k l p)) (ha : ∀ b ∈ l, b.toNat < 128) :
    Ac P n env (Oper.mk dst (.next x true) ty pos aft g) w fun u w' => u = (if p < l.length then .tuple #[.bool true, .int .i64 (p : Int), .int .i32 ((l.getD p 0).toNat : Int)] else .tuple #[.bool false]) ∧ Keep (· ∈ [k]) w w' ∧ Mem w0 w' F (rs.set i (itR k l (if p < l.length then p + 1 else p))) := by
  by_cases hp : p < l.length
  · have hb : l[p]? = some (l.getD p 0) := by rw [List.getD, List.getElem?_eq_getElem hp]; rfl
    simp only [if_pos hp]
    exact Ac.nextS M hx hi hb (ha _ (List.mem_of_getElem? hb))
  · simp only [if_neg hp]
    intro a hfit K Q hK
    refine Ac.nextE M hx hi (Nat.le_of_not_lt hp) a hfit K Q fun v w' ⟨h1, h2, h3⟩ => hK v w' ⟨h1, h2.mono fun _ _ f => f.elim, ?_⟩
    exact h3.turn hi (Keep.refl _ _) (h3.get hi) fun b hb => .inl hb
end
/-! ### The order -/
open Lib (compareBytes)
theorem cmpB_self : ∀ a : List UInt8, compareBytes a a = 0
  | [] => rfl
  | x :: r => by
    unfold compareBytes
    rw [if_neg (UInt8.lt_irrefl x), if_neg (UInt8.lt_irrefl x), cmpB_self r]
theorem cmpB_swap : ∀ a b : List UInt8, compareBytes b a = - compareBytes a b
  | [], [] => rfl
  | [], _ :: _ => rfl
  | _ :: _, [] => rfl
  | x :: a, y :: b => by
    have ih := cmpB_swap a b
    unfold compareBytes
    simp only [UInt8.lt_iff_toNat_lt]
    split <;> split <;> first | omega | rfl | exact ih
theorem cmpB_zero : ∀ a b : List UInt8, compareBytes a b = 0 → a = b
  | [], [], _ => rfl
  | [], _ :: _, h => by cases h
  | _ :: _, [], h => by cases h
  | x :: a, y :: b, h => by
    unfold compareBytes at h
    simp only [UInt8.lt_iff_toNat_lt] at h
    split at h
    · cases h
    · split at h
      · cases h
      · rw [cmpB_zero a b h, UInt8.toNat_inj.1 (show x.toNat = y.toNat by omega)]
theorem cmpB_trans : ∀ a b c : List UInt8, compareBytes a b < 0 → compareBytes b c < 0 → compareBytes a c < 0
  | [], [], _, h, _ => by cases h
  | [], _ :: _, [], _, h => by cases h
  | [], _ :: _, _ :: _, _, _ => by show (-1 : Int) < 0; decide
  | _ :: _, [], _, h, _ => by cases h
  | _ :: _, _ :: _, [], _, h => by cases h
  | x :: a, y :: b, z :: c, h1, h2 => by
    have ih := cmpB_trans a b c
    unfold compareBytes at h1 h2 ⊢
    simp only [UInt8.lt_iff_toNat_lt] at h1 h2 ⊢
    split at h1
    · split at h2
      · rw [if_pos (by omega)]; decide
      · split at h2
        · omega
        · rw [if_pos (by omega)]; decide
    · split at h1
      · omega
      · split at h2
        · rw [if_pos (by omega)]; decide
        · split at h2
          · omega
          · rw [if_neg (by omega), if_neg (by omega)]
            exact ih h1 h2
/-- The first byte that differs says it. -/
theorem cmpB_at : ∀ (i : Nat) {a b : List UInt8} {x y : UInt8}, a.take i = b.take i → a[i]? = some x → b[i]? = some y → x ≠ y → (compareBytes a b < 0 ↔ x.toNat < y.toNat)
  | 0, a, b, x, y, _, ha, hb, hn => by
    obtain ⟨r, rfl⟩ : ∃ r, a = x :: r := by cases a with | nil => simp at ha | cons p r => exact ⟨r, by simpa using ha⟩
    obtain ⟨s, rfl⟩ : ∃ r, b = y :: r := by cases b with | nil => simp at hb | cons p r => exact ⟨r, by simpa using hb⟩
    unfold compareBytes
    have hn' : x.toNat ≠ y.toNat := fun h => hn (UInt8.toNat_inj.1 h)
    simp only [UInt8.lt_iff_toNat_lt]
    split
    · rename_i h; exact ⟨fun _ => h, fun _ => by decide⟩
    · rename_i h
      rw [if_pos (by omega)]
      exact ⟨fun f => absurd f (by decide), fun f => absurd f h⟩
  | i + 1, a, b, x, y, ht, ha, hb, hn => by
    obtain ⟨p, r, rfl⟩ : ∃ p r, a = p :: r := by cases a with | nil => simp at ha | cons p r => exact ⟨p, r, rfl⟩
    obtain ⟨q, s, rfl⟩ : ∃ p r, b = p :: r := by cases b with | nil => simp at hb | cons p r => exact ⟨p, r, rfl⟩
    simp only [List.take_succ_cons, List.cons.injEq] at ht
    obtain ⟨rfl, ht⟩ := ht
    have ih := cmpB_at i ht (by simpa using ha) (by simpa using hb) hn
    unfold compareBytes
    rw [if_neg (UInt8.lt_irrefl p), if_neg (UInt8.lt_irrefl p)]
    exact ih
end Go.Sx
