/- Walks, written by gen.py off the translation's own print: each says what the Go function comes to. -/
import Derived.Test.YtchmjpdkonfifaaDoorY7
import Derived.Test.YtchmjpdkonfifaaDoorAl
set_option linter.unusedVariables false
set_option linter.unusedSimpArgs false
namespace Go.Proofs.YtchmjpdkonfifaaDoor
open Go.Sx Go.RowKit
attribute [local irreducible] Ac Ex WL WC WX WP Gives sha

/-- A slice of hashes that comes in. -/
theorem ok_hashes {w : World} {v : Value} (h : CK.ok w (.sl (rep 32 [.int .u8])) v) : ∃ A c, ∃ ls : Hs, v = .slice A ls.length c ∧ ls.length ≤ c ∧ c ≤ maxLen ∧ Rd w A (fl ls) ∧ ∀ a ∈ ls, H32 a := by
  obtain ⟨A, c, es, h1, h2, h3, h4, h5⟩ := sl_view h bytesV H32 (fun vs hv => h32_view vs hv)
  exact ⟨A, c, es, h1, h2, h3, h4, h5⟩

theorem range_u64 (n : Nat) : u64V (List.range n) ++ [.int .u64 (n : Int)] = u64V (List.range (n + 1)) := by rw [List.range_succ, u64V_append]; rfl
theorem map_snoc {xs : List Nat} {i : Nat} (f : Nat → Nat) (h : i < xs.length) : (xs.take (i + 1)).map f = (xs.take i).map f ++ [f (gv xs i)] := by rw [take_snoc (gv_get h), List.map_append]; rfl
theorem ok_u64s {w : World} {v : Value} (h : CK.ok w (.sl [.int .u64]) v) : ∃ A c, ∃ xs : List Nat, v = .slice A xs.length c ∧ xs.length ≤ c ∧ c ≤ maxLen ∧ Rd w A (u64V xs) ∧ ∀ x ∈ xs, x < 18446744073709551616 := by
  obtain ⟨A, c, es, h1, h2, h3, h4, h5⟩ := sl_view h (fun x : Nat => [(.int .u64 (x : Int) : Value)]) (fun x => x < 18446744073709551616) (view_one (f := fun n : Nat => (.int .u64 (n : Int) : Value)) v_u64)
  refine ⟨A, c, es, h1, h2, h3, ?_, h5⟩
  have e : es.flatMap (fun x : Nat => [(.int .u64 (x : Int) : Value)]) = u64V es := by
    clear h1 h2 h3 h4 h5
    induction es with
    | nil => rfl
    | cons a l ih => rw [List.flatMap_cons, ih]; rfl
  rw [← e]; exact h4

theorem sibL32 {ls : Hs} (h : ∀ a ∈ ls, H32 a) (l : Nat) : ∀ zs : List Nat, ∀ a ∈ sibL (fun q0 q1 => nd dNode e0 ls q0 q1) l zs, H32 a
  | [], a, ha => by cases ha
  | [i], a, ha => by
    obtain rfl := List.mem_singleton.1 ha
    exact nd32 h l _
  | i :: k :: r, a, ha => by
    rw [sibL] at ha
    split at ha
    · exact sibL32 h l r a ha
    · rcases List.mem_cons.1 ha with rfl | ha
      · exact nd32 h l _
      · exact sibL32 h l (k :: r) a ha
theorem sibs32 {ls : Hs} (h : ∀ a ∈ ls, H32 a) : ∀ (d l : Nat) (zs : List Nat), ∀ a ∈ sibs (fun q0 q1 => nd dNode e0 ls q0 q1) d l zs, H32 a
  | 0, _, _, a, ha => by cases ha
  | d + 1, l, zs, a, ha => by
    rw [sibs] at ha
    rcases List.mem_append.1 ha with ha | ha
    · exact sibL32 h l zs a ha
    · exact sibs32 h d (l + 1) _ a ha

end Go.Proofs.YtchmjpdkonfifaaDoor
