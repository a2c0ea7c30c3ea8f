/- Climbing over rising places: plain, and what a row of places is in memory. My own text. -/
import Derived.Test.YtchmjpdkonfifaaDoorMul
import Derived.Test.YtchmjpdkonfifaaDoorTree
set_option linter.unusedVariables false
set_option linter.unusedSimpArgs false
namespace Go.Sx
open Go.RowKit
def emptyR : Res where
  fp := []
  sat _ := True
  lt _ _ b hb := by simp at hb
  loc _ _ _ _ := trivial
def optR : Bool → Res → Res
  | true, r => r
  | false, _ => emptyR
theorem rdP {w0 w : World} {F : Nat → Prop} {rs : List Res} (M : Mem w0 w F rs) {i n c b o : Nat} {e : TypeId} {own : Bool} {zs : List Nat} (hi : rs[i]? = some (optR own (row (.slice (some ⟨b, o, none⟩) n c) e 1 n (u64V zs))))
    (hx : own = false → Rd w0 (some ⟨b, o, none⟩) (u64V zs) ∧ ¬ F b) : Rd w (some ⟨b, o, none⟩) (u64V zs) := by
  cases own with
  | false => exact (hx rfl).1.keep M.keep (fun a ha => by cases ha; exact (hx rfl).2)
  | true => exact M.rdr (i := i) hi
theorem bxor1 {i : Nat} (h : i < 18446744073709551616) : bits .xor .u64 (i : Int) 1 = ((i ^^^ 1 : Nat) : Int) := by
  have e : (BitVec.ofInt 64 (i : Int) ^^^ BitVec.ofInt 64 1).toNat = i ^^^ 1 := by
    rw [BitVec.toNat_xor]
    have e1 : (BitVec.ofInt 64 (i : Int)).toNat = i := by
      rw [show BitVec.ofInt 64 (i : Int) = BitVec.ofNat 64 i from by simp, BitVec.toNat_ofNat, Nat.mod_eq_of_lt h]
    rw [e1]
    rfl
  have hl : i ^^^ 1 < 18446744073709551616 := by rw [← e]; exact BitVec.isLt _
  show IntKind.u64.wrap ((BitVec.ofInt 64 (i : Int) ^^^ BitVec.ofInt 64 1).toNat : Int) = _
  rw [e]
  exact u64w_lt _ hl
section
variable {τ : Type} (fl : τ → Nat → Nat → Option τ) (fp : τ → Nat → Bool → τ)
/-- The places of the level above. -/
def ups : List Nat → List Nat
  | [] => []
  | [i] => [i / 2]
  | i :: k :: r => if i % 2 = 0 ∧ k = i + 1 then i / 2 :: ups r else i / 2 :: ups (k :: r)
/-- One level. -/
def lvl (l : Nat) : List Nat → τ → Option τ
  | [], t => some t
  | [i], t => (fl t l (i ^^^ 1)).bind fun t => some (fp t i false)
  | i :: k :: r, t => if i % 2 = 0 ∧ k = i + 1 then lvl l r (fp t i true) else (fl t l (i ^^^ 1)).bind fun t => lvl l (k :: r) (fp t i false)
def climbF : Nat → Nat → List Nat → τ → Option τ
  | 0, _, _, t => some t
  | d + 1, l, zs, t => (lvl fl fp l zs t).bind (climbF d (l + 1) (ups zs))
theorem ups_b {i : Nat} {r : List Nat} (h : i % 2 = 0) : ups (i :: (i + 1) :: r) = i / 2 :: ups r := by rw [ups, if_pos ⟨h, rfl⟩]
theorem ups_s {i : Nat} {r : List Nat} (h : ¬ (i % 2 = 0 ∧ r[0]? = some (i + 1))) : ups (i :: r) = i / 2 :: ups r := by
  cases r with
  | nil => rfl
  | cons k r => rw [ups, if_neg (fun e => h ⟨e.1, by simp [e.2]⟩)]
theorem lvl_b {l i : Nat} {r : List Nat} {t : τ} (h : i % 2 = 0) : lvl fl fp l (i :: (i + 1) :: r) t = lvl fl fp l r (fp t i true) := by rw [lvl, if_pos ⟨h, rfl⟩]
theorem lvl_s {l i : Nat} {r : List Nat} {t : τ} (h : ¬ (i % 2 = 0 ∧ r[0]? = some (i + 1))) : lvl fl fp l (i :: r) t = (fl t l (i ^^^ 1)).bind fun t => lvl fl fp l r (fp t i false) := by
  cases r with
  | nil => rw [lvl]; rfl
  | cons k r => rw [lvl, if_neg (fun e => h ⟨e.1, by simp [e.2]⟩)]
theorem drop_gv {zs : List Nat} {k : Nat} (h : k < zs.length) : zs.drop k = gv zs k :: zs.drop (k + 1) := by
  have e : gv zs k = zs[k] := by simp [gv, h]
  rw [e, List.drop_eq_getElem_cons h]
theorem drop_hd {zs : List Nat} {k : Nat} : (zs.drop k)[0]? = zs[k]? := by simp
/-- One step of a level. -/
theorem step_b {zs : List Nat} {k l : Nat} {t : τ} (hk : k + 1 < zs.length) (he : gv zs k % 2 = 0) (h : gv zs (k + 1) = gv zs k + 1) :
    ups (zs.drop k) = gv zs k / 2 :: ups (zs.drop (k + 1 + 1)) ∧ lvl fl fp l (zs.drop k) t = lvl fl fp l (zs.drop (k + 1 + 1)) (fp t (gv zs k) true) := by
  rw [drop_gv (by omega : k < zs.length), drop_gv hk, h]
  exact ⟨ups_b he, lvl_b fl fp he⟩
theorem step_s {zs : List Nat} {k l : Nat} {t t' : τ} (hk : k < zs.length) (h : ¬ (gv zs k % 2 = 0 ∧ k + 1 < zs.length ∧ gv zs (k + 1) = gv zs k + 1)) (hf : fl t l (gv zs k ^^^ 1) = some t') :
    ups (zs.drop k) = gv zs k / 2 :: ups (zs.drop (k + 1)) ∧ lvl fl fp l (zs.drop k) t = lvl fl fp l (zs.drop (k + 1)) (fp t' (gv zs k) false) := by
  have hn : ¬ (gv zs k % 2 = 0 ∧ (zs.drop (k + 1))[0]? = some (gv zs k + 1)) := fun ⟨e1, e2⟩ => by
    rw [drop_hd] at e2
    have h3 : k + 1 < zs.length := (List.getElem?_eq_some_iff.1 e2).1
    rw [gv_get h3] at e2
    exact h ⟨e1, h3, Option.some.inj e2⟩
  rw [drop_gv hk]
  exact ⟨ups_s hn, by rw [lvl_s fl fp hn, hf]; rfl⟩
theorem step_n {zs : List Nat} {k l : Nat} {t : τ} (hk : k < zs.length) (h : ¬ (gv zs k % 2 = 0 ∧ k + 1 < zs.length ∧ gv zs (k + 1) = gv zs k + 1)) (hf : fl t l (gv zs k ^^^ 1) = none) :
    lvl fl fp l (zs.drop k) t = none := by
  have hn : ¬ (gv zs k % 2 = 0 ∧ (zs.drop (k + 1))[0]? = some (gv zs k + 1)) := fun ⟨e1, e2⟩ => by
    rw [drop_hd] at e2
    have h3 : k + 1 < zs.length := (List.getElem?_eq_some_iff.1 e2).1
    rw [gv_get h3] at e2
    exact h ⟨e1, h3, Option.some.inj e2⟩
  rw [drop_gv hk, lvl_s fl fp hn, hf]; rfl
theorem ups_len : ∀ zs : List Nat, (ups zs).length ≤ zs.length ∧ (0 < zs.length → 0 < (ups zs).length)
  | [] => ⟨Nat.le_refl _, fun h => h⟩
  | [i] => ⟨Nat.le_refl _, fun h => h⟩
  | i :: k :: r => by
    rw [ups]
    split
    · have := ups_len r; exact ⟨by simp; omega, fun _ => by simp⟩
    · have := ups_len (k :: r); exact ⟨by simp at this ⊢; omega, fun _ => by simp⟩
end
end Go.Sx
