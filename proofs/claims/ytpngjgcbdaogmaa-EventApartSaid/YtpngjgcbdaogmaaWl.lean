/- Walks, written by gen.py off the translation's own print: each says what the Go function comes to. -/
import Derived.Test.YtpngjgcbdaogmaaWh
set_option linter.unusedVariables false
set_option linter.unusedSimpArgs false
namespace Go.Proofs.Ytpngjgcbdaogmaa
open Go.Sx Go.RowKit
attribute [local irreducible] Ac Ex WL WC WX WP Gives

/-- An intent. -/
structure Itt where
  ix : Nat
  tk : Nat
  ow : Nat
  am : List Nat
instance : DecidableEq Itt := fun a b => decidable_of_iff (a.ix = b.ix ∧ a.tk = b.tk ∧ a.ow = b.ow ∧ a.am = b.am) (by cases a; cases b; simp)
def ittC (t : Itt) : List Value := [.int .u32 (t.ix : Int), .int .u8 (t.tk : Int), .int .u8 (t.ow : Int)] ++ intV t.am
structure IttOk (t : Itt) : Prop where
  ix : t.ix < 4294967296
  tk : t.tk < 256
  ow : t.ow < 256
  am : Int4 t.am
def itt0 : Itt := ⟨0, 0, 0, [0, 0, 0, 0]⟩
theorem int4_0 : Int4 [0, 0, 0, 0] := rInt_ok4 []
theorem itt0_ok : IttOk itt0 := ⟨by decide, by decide, by decide, int4_0⟩
def ittB (t : Itt) : List UInt8 := be 4 t.ix ++ (be 1 t.tk ++ (be 1 t.ow ++ intB t.am))
@[simp] theorem ittB_len (t : Itt) : (ittB t).length = 38 := by simp [ittB]
def mayI (t : Itt) : Prop := t.tk ≤ 3 ∧ t.ow ≤ 15 ∧ t.am ≠ [0, 0, 0, 0]
instance (t : Itt) : Decidable (mayI t) := by unfold mayI; infer_instance
theorem itt_len {t : Itt} (h : IttOk t) : (ittC t).length = 7 := by simp [ittC, h.am.1]
theorem itt_3 {t : Itt} (h : IttOk t) : ((ittC t).drop 3).take 4 = intV t.am := by simp [ittC, h.am.1, List.take_of_length_le]
theorem itt_one {t : Itt} : ∀ u ∈ ittC t, u.oneCell' = true := by
  intro u hu
  simp only [ittC, List.mem_append, List.mem_cons, List.not_mem_nil, or_false] at hu
  rcases hu with (rfl | rfl | rfl) | hu
  · rfl
  · rfl
  · rfl
  · exact intV_one _ u hu
theorem ittC_inj {a b : Itt} (h : ittC a = ittC b) : a = b := by
  simp only [ittC, List.cons_append, List.nil_append, List.cons.injEq, Value.int.injEq, true_and] at h
  obtain ⟨h1, h2, h3, h4⟩ := h
  cases a; cases b
  simp only at h1 h2 h3 h4
  rw [Itt.mk.injEq]
  exact ⟨by omega, by omega, by omega, intV_inj h4⟩
theorem oks_u1 {w : World} {k : IntKind} {ks : List CK} {x : Nat} {vs : List Value} (h : (Lit.int k (x : Int)).wf = true) (hr : CK.oks w ks vs) : CK.oks w (.int k :: ks) (.int k (x : Int) :: vs) := ⟨_, _, rfl, ⟨_, rfl, h⟩, hr⟩
theorem wf_u32 {x : Nat} (h : x < 4294967296) : (Lit.int .u32 (x : Int)).wf = true := by simp [Lit.wf, IntKind.min, IntKind.max, IntKind.signed, IntKind.bits]; omega
theorem wf_u8 {x : Nat} (h : x < 256) : (Lit.int .u8 (x : Int)).wf = true := by simp [Lit.wf, IntKind.min, IntKind.max, IntKind.signed, IntKind.bits]; omega
theorem wf_u64 {x : Nat} (h : x < 18446744073709551616) : (Lit.int .u64 (x : Int)).wf = true := by simp [Lit.wf, IntKind.min, IntKind.max, IntKind.signed, IntKind.bits]; omega
theorem oks_int4 {w : World} {a : List Nat} (h : Int4 a) : CK.oks w (rep 4 [.int .u64]) (intV a) := by have := oks_u64 (w := w) a h.mem; rw [h.1] at this; exact this
abbrev ittK : List CK := .int .u32 :: .int .u8 :: .int .u8 :: rep 4 [.int .u64]
theorem oks_itt {w : World} {t : Itt} (h : IttOk t) : CK.oks w ittK (ittC t) := oks_u1 (wf_u32 h.ix) (oks_u1 (wf_u8 h.tk) (oks_u1 (wf_u8 h.ow) (oks_int4 h.am)))
theorem eqItt (w : World) {a b : Itt} (ha : IttOk a) (hb : IttOk b) : EqT Try.prog 72 (ittC a) (ittC b) (decide (a = b)) :=
  EqT.to (EqT_of (w := w) (n := 8) (ks := ittK) (by kernel_rfl) rfl (by kernel_rfl) (by decide) (by kernel_rfl) (by kernel_rfl) (by kernel_rfl) (oks_itt ha) (oks_itt hb)) ⟨ittC_inj, fun e => by rw [e]⟩
theorem bldItt {ix tk ow : Nat} {am : List Nat} (h : am.length = 4) :
    okS (fun i => ([(0, 1), (1, 1), (2, 1), (3, 4)] : List (Nat × Nat))[i]?) ([.int .u32 0] ++ [.int .u8 0] ++ [.int .u8 0] ++ (List.replicate 4 (.int .u64 0))) [(0, .int .u32 (ix : Int)), (1, .int .u8 (tk : Int)), (2, .int .u8 (ow : Int)), (3, .agg (intV am).toArray)]
      [[.int .u32 (ix : Int)], [.int .u8 (tk : Int)], [.int .u8 (ow : Int)], intV am] (ittC ⟨ix, tk, ow, am⟩) :=
  ⟨0, 1, rfl, rfl, rfl, by simp, 1, 1, rfl, rfl, rfl, by simp [splice], 2, 1, rfl, rfl, rfl, by simp [splice], 3, 4, rfl, rfl, by simp [h], by simp [splice], by show splice _ _ _ = _; simp [splice, ittC, h]⟩
/-- An intent off its bytes. -/
def ittOf (b : List UInt8) : Itt := ⟨beVal (b.take 4), beVal ((b.drop 4).take 1), beVal ((b.drop 5).take 1), ofB (b.drop 6)⟩
theorem ittOf_ok {b : List UInt8} (h : b.length = 38) : IttOk (ittOf b) :=
  ⟨Nat.lt_of_lt_of_le (beVal_lt_of (n := 4) (by simp; omega)) (by decide), Nat.lt_of_lt_of_le (beVal_lt_of (n := 1) (by simp; omega)) (by decide), Nat.lt_of_lt_of_le (beVal_lt_of (n := 1) (by simp; omega)) (by decide), ofB_ok (by simp; omega)⟩
theorem ittOf_app {A B C D : List UInt8} (hA : A.length = 4) (hB : B.length = 1) (hC : C.length = 1) : ittOf (A ++ (B ++ (C ++ D))) = ⟨beVal A, beVal B, beVal C, ofB D⟩ := by
  have t1 : A.take 4 = A := by rw [← hA, List.take_length]
  have t2 : B.take 1 = B := by rw [← hB, List.take_length]
  have t3 : C.take 1 = C := by rw [← hC, List.take_length]
  simp [ittOf, List.drop_append, List.take_append, hA, hB, hC, t1, t2, t3, List.drop_eq_nil_of_le]
theorem ittOf_B {t : Itt} (h : IttOk t) : ittOf (ittB t) = t := by
  rw [ittB, ittOf_app (by simp) (by simp) (by simp), beVal_be' (by have := h.ix; omega), beVal_be' (by have := h.tk; omega), beVal_be' (by have := h.ow; omega), ofB_intB h.am]
/-- The next intent of what is left. -/
def iGet (s : RS) : Itt × RS := if s.2 = 0 ∧ 38 ≤ s.1.length then (if mayI (ittOf (s.1.take 38)) then (ittOf (s.1.take 38), (s.1.drop 38, 0)) else (itt0, ([], 6))) else (itt0, rFail s 4)
theorem iGet_ok (s : RS) : IttOk (iGet s).1 := by
  unfold iGet
  split
  · split
    · exact ittOf_ok (by simp; omega)
    · exact itt0_ok
  · exact itt0_ok
theorem iGet_inv {s : RS} (h : s.2 ≠ 0 → s.1 = []) : (iGet s).2.2 ≠ 0 → (iGet s).2.1 = [] := by
  unfold iGet
  split
  · split
    · intro h; exact absurd rfl h
    · intro; rfl
  · unfold rFail
    split
    · intro; rfl
    · exact h
/-- The four takes, when there is not enough. -/
theorem takes_short {s : RS} (hi : s.2 ≠ 0 → s.1 = []) (h : ¬ (s.2 = 0 ∧ 38 ≤ s.1.length)) : (rTake (rTake (rTake (rTake s 4).2 1).2 1).2 32).2 = rFail s 4 ∧ (rFail s 4).2 ≠ 0 := by
  obtain ⟨l, e⟩ := s
  by_cases he : e = 0
  · subst he
    simp only [true_and] at h
    have h4 : rFail (l, 0) 4 = ([], 4) := by simp [rFail]
    have h5 : ∀ m : List UInt8, rFail (m, 4) 4 = (m, 4) := fun m => by simp [rFail]
    refine ⟨?_, by rw [h4]; decide⟩
    rw [h4]
    by_cases h1 : l.length < 4
    · simp [rTake, h1, rFail]
    · by_cases h2 : l.length < 5
      · have : l.length - 4 < 1 := by omega
        simp [rTake, h1, this, rFail]
      · by_cases h3 : l.length < 6
        · have e1 : ¬ l.length - 4 < 1 := by omega
          have e2 : l.length - 5 < 1 := by omega
          simp [rTake, h1, e1, e2, rFail]
        · have e1 : ¬ l.length - 4 < 1 := by omega
          have e2 : ¬ l.length - 5 < 1 := by omega
          have e3 : l.length - 6 < 32 := by omega
          simp [rTake, h1, e1, e2, e3, rFail]
  · have hl : l = [] := hi he
    subst hl
    have hf : rFail ([], e) 4 = ([], e) := by simp [rFail, he]
    rw [hf]
    refine ⟨?_, he⟩
    simp [rTake, hf]
theorem split38 {l : List UInt8} (h : 38 ≤ l.length) : ∃ A B C D L : List UInt8, A.length = 4 ∧ B.length = 1 ∧ C.length = 1 ∧ D.length = 32 ∧ l = A ++ (B ++ (C ++ (D ++ L))) := by
  refine ⟨l.take 4, (l.drop 4).take 1, (l.drop 5).take 1, (l.drop 6).take 32, l.drop 38, by simp; omega, by simp; omega, by simp; omega, by simp; omega, ?_⟩
  have e1 : (l.drop 6).take 32 ++ l.drop 38 = l.drop 6 := by have := List.take_append_drop 32 (l.drop 6); rwa [List.drop_drop] at this
  have e2 : (l.drop 5).take 1 ++ l.drop 6 = l.drop 5 := by have := List.take_append_drop 1 (l.drop 5); rwa [List.drop_drop] at this
  have e3 : (l.drop 4).take 1 ++ l.drop 5 = l.drop 4 := by have := List.take_append_drop 1 (l.drop 4); rwa [List.drop_drop] at this
  rw [e1, e2, e3, List.take_append_drop]
theorem take38 {A B C D L : List UInt8} (hA : A.length = 4) (hB : B.length = 1) (hC : C.length = 1) (hD : D.length = 32) : (A ++ (B ++ (C ++ (D ++ L)))).take 38 = A ++ (B ++ (C ++ D)) ∧ (A ++ (B ++ (C ++ (D ++ L)))).drop 38 = L := by
  have e : A ++ (B ++ (C ++ (D ++ L))) = (A ++ (B ++ (C ++ D))) ++ L := by simp
  have hl : (A ++ (B ++ (C ++ D))).length = 38 := by simp [hA, hB, hC, hD]
  rw [e]
  exact ⟨by rw [← hl, List.take_left], by rw [← hl, List.drop_left]⟩

end Go.Proofs.Ytpngjgcbdaogmaa
