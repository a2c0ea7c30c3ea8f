/- Walks, written by gen.py off the translation's own print: each says what the Go function comes to. -/
import Derived.Test.YtpngjgcbdaogmaaZb
set_option linter.unusedVariables false
set_option linter.unusedSimpArgs false
namespace Go.Proofs.Ytpngjgcbdaogmaa
open Go.Sx Go.RowKit
attribute [local irreducible] Ac Ex WL WC WX WP Gives

theorem seg9 {X P A R : List UInt8} {k n : Nat} (h : X = P ++ (A ++ R)) (hk : P.length = k) (hn : A.length = n) : (X.drop k).take n = A := by subst h hk hn; simp
theorem evOf_B {t : Ev} (h : EvOk t) (r : List UInt8) : evOf (evB t ++ r) = t := by
  have hi := h.id
  obtain ⟨X, hX⟩ : ∃ X, X = evB t ++ r := ⟨_, rfl⟩
  have hX' := hX
  simp only [evB, List.append_assoc] at hX'
  have s0 : (X.drop 0).take 1 = be 1 t.k := seg9 (P := []) hX' rfl (by simp)
  have s1 : (X.drop 1).take 8 = be 8 t.b := seg9 (P := be 1 t.k) hX' (by simp) (by simp)
  have s2 : (X.drop 9).take 32 = t.id := seg9 (P := be 1 t.k ++ be 8 t.b) (by rw [hX']; simp only [List.append_assoc]; rfl) (by simp) hi
  have s3 : (X.drop 41).take 1 = be 1 t.sd := seg9 (P := be 1 t.k ++ (be 8 t.b ++ t.id)) (by rw [hX']; simp only [List.append_assoc]; rfl) (by simp [hi]) (by simp)
  have s4 : (X.drop 42).take 1 = be 1 t.tk := seg9 (P := be 1 t.k ++ (be 8 t.b ++ (t.id ++ be 1 t.sd))) (by rw [hX']; simp only [List.append_assoc]; rfl) (by simp [hi]) (by simp)
  have s5 : (X.drop 43).take 1 = be 1 t.fr := seg9 (P := be 1 t.k ++ (be 8 t.b ++ (t.id ++ (be 1 t.sd ++ be 1 t.tk)))) (by rw [hX']; simp only [List.append_assoc]; rfl) (by simp [hi]) (by simp)
  have s6 : (X.drop 44).take 1 = be 1 t.to := seg9 (P := be 1 t.k ++ (be 8 t.b ++ (t.id ++ (be 1 t.sd ++ (be 1 t.tk ++ be 1 t.fr))))) (by rw [hX']; simp only [List.append_assoc]; rfl) (by simp [hi]) (by simp)
  have s7 : (X.drop 45).take 32 = intB t.am := seg9 (P := be 1 t.k ++ (be 8 t.b ++ (t.id ++ (be 1 t.sd ++ (be 1 t.tk ++ (be 1 t.fr ++ be 1 t.to)))))) (by rw [hX']; simp only [List.append_assoc]; rfl) (by simp [hi]) (by simp)
  have s8 : (X.drop 77).take 32 = intB t.fe := seg9 (P := be 1 t.k ++ (be 8 t.b ++ (t.id ++ (be 1 t.sd ++ (be 1 t.tk ++ (be 1 t.fr ++ (be 1 t.to ++ intB t.am))))))) (by rw [hX']; simp only [List.append_assoc]; rfl) (by simp [hi]) (by simp)
  have s9 : (X.drop 109).take 4 = be 4 t.bt := seg9 (P := be 1 t.k ++ (be 8 t.b ++ (t.id ++ (be 1 t.sd ++ (be 1 t.tk ++ (be 1 t.fr ++ (be 1 t.to ++ (intB t.am ++ intB t.fe)))))))) (by rw [hX']; simp only [List.append_assoc]; rfl) (by simp [hi]) (by simp)
  rw [← hX]
  rw [List.drop_zero] at s0
  rw [evOf, s0, s1, s2, s3, s4, s5, s6, s7, s8, s9, beVal_be' (by have := h.k; omega), beVal_be' (by have := h.b; omega), beVal_be' (by have := h.sd; omega), beVal_be' (by have := h.tk; omega), beVal_be' (by have := h.fr; omega), beVal_be' (by have := h.to; omega), beVal_be' (by have := h.bt; omega), ofB_intB h.am, ofB_intB h.fe]
theorem beN {n : Nat} {l : List UInt8} (h : l.length = n) : be n (beVal l) = l := by subst h; exact be_beVal l
theorem evB_of {b : List UInt8} (h : 113 ≤ b.length) : evB (evOf b) = b.take 113 := by
  have tk : ∀ (l : List UInt8) (m n : Nat), l.take (m + n) = l.take m ++ (l.drop m).take n := fun l m n => by rw [List.take_add]
  rw [evB, evOf]
  simp only
  rw [beN (by simp; omega), beN (by simp; omega), beN (by simp; omega), beN (by simp; omega), beN (by simp; omega), beN (by simp; omega), beN (by simp; omega), intB_ofB (by simp; omega), intB_ofB (by simp; omega)]
  rw [show (113 : Nat) = 1 + (8 + (32 + (1 + (1 + (1 + (1 + (32 + (32 + 4)))))))) from rfl]
  simp only [tk, List.drop_drop]
theorem eRead_B : ∀ (es : List Ev) (n : Nat) (acc : List Ev), (∀ t ∈ es, EvOk t) → (∀ t ∈ es, mayE t) → es.length < n → eRead n (es.flatMap evB) acc = (acc ++ es, 0)
  | [], n + 1, acc, _, _, _ => by rw [List.flatMap_nil, eRead, if_pos rfl, List.append_nil]
  | a :: r, n + 1, acc, h, hm, hl => by
    have ha := h a (by simp)
    have hB := evB_len ha
    have e : (a :: r).flatMap evB = evB a ++ r.flatMap evB := rfl
    have e2 : (evB a ++ r.flatMap evB).drop 113 = r.flatMap evB := by rw [← hB, List.drop_left]
    rw [e, eRead, if_neg (fun h0 => by have := congrArg List.length h0; rw [List.length_append, hB] at this; simp at this), if_neg (by rw [List.length_append, hB]; omega), evOf_B ha, if_pos (hm a (by simp)), e2, eRead_B r n _ (fun t ht => h t (by simp [ht])) (fun t ht => hm t (by simp [ht])) (by simp only [List.length_cons] at hl; omega), List.append_assoc]
    rfl
theorem eAll_B {es : List Ev} (h : ∀ t ∈ es, EvOk t) (hm : ∀ t ∈ es, mayE t) : eAll (es.flatMap evB) = (es, 0) := by
  rw [eAll, eRead_B es _ [] h hm (by rw [evsB_len h]; omega), List.nil_append]
theorem eRead_of : ∀ (n : Nat) (b : List UInt8) (acc : List Ev), b.length < n → (∀ t ∈ acc, mayE t) → (eRead n b acc).2 = 0 → ∃ es, (eRead n b acc).1 = acc ++ es ∧ es.flatMap evB = b ∧ ∀ t ∈ acc ++ es, mayE t
  | n + 1, b, acc, hn, hm, h0 => by
    unfold eRead at h0 ⊢
    split at h0
    · rename_i hb
      rw [if_pos hb, hb]
      exact ⟨[], by simp, rfl, by simpa using hm⟩
    · rename_i hb
      split at h0
      · cases h0
      · rename_i hl
        split at h0
        · rename_i hme
          rw [if_neg hb, if_neg hl, if_pos hme]
          obtain ⟨es, h1, h2, h3⟩ := eRead_of n (b.drop 113) (acc ++ [evOf b]) (by simp; omega) (fun t ht => by
            rcases List.mem_append.1 ht with h | h
            · exact hm t h
            · obtain rfl : t = evOf b := by simpa using h
              exact hme) h0
          refine ⟨evOf b :: es, ?_, ?_, ?_⟩
          · rw [h1, List.append_assoc]; rfl
          · rw [List.flatMap_cons, evB_of (by omega), h2, List.take_append_drop]
          · intro t ht
            exact h3 t (by simpa using ht)
        · cases h0
theorem eAll_of {b : List UInt8} (h : (eAll b).2 = 0) : (eAll b).1.flatMap evB = b ∧ ∀ t ∈ (eAll b).1, mayE t := by
  obtain ⟨es, h1, h2, h3⟩ := eRead_of (b.length + 1) b [] (by omega) (by simp) h
  rw [List.nil_append] at h1 h3
  rw [eAll, h1]
  exact ⟨h2, h3⟩
theorem evB_inj {es fs : List Ev} (h1 : ∀ t ∈ es, EvOk t) (h2 : ∀ t ∈ fs, EvOk t) (m1 : ∀ t ∈ es, mayE t) (m2 : ∀ t ∈ fs, mayE t) : es.flatMap evB = fs.flatMap evB ↔ es = fs := by
  refine ⟨fun e => ?_, fun e => by rw [e]⟩
  have := eAll_B h1 m1
  rw [e, eAll_B h2 m2] at this
  exact (Prod.mk.inj this).1.symm
theorem eAll_len (b : List UInt8) : (eAll b).1.length ≤ b.length + 1 := by
  have := eRead_len (b.length + 1) b []
  simp at this
  exact this
theorem eAll_ok (b : List UInt8) : ∀ t ∈ (eAll b).1, EvOk t := eRead_ok _ _ _ (by simp)

end Go.Proofs.Ytpngjgcbdaogmaa
