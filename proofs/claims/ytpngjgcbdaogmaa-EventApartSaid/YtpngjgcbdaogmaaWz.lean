/- Walks, written by gen.py off the translation's own print: each says what the Go function comes to. -/
import Derived.Test.YtpngjgcbdaogmaaWy
set_option linter.unusedVariables false
set_option linter.unusedSimpArgs false
namespace Go.Proofs.Ytpngjgcbdaogmaa
open Go.Sx Go.RowKit
attribute [local irreducible] Ac Ex WL WC WX WP Gives

theorem ev_set_id {t : Ev} (h : EvOk t) {i : Nat} (hi : i < 32) (b : UInt8) : (evC t).set (2 + i) (.int .u8 (b.toNat : Int)) = evC { t with id := t.id.set i b } := by
  have e : ∀ u : Ev, evC u = ([.int .u8 (u.k : Int), .int .u64 (u.b : Int)] ++ bytesV u.id) ++ ([.int .u8 (u.sd : Int), .int .u8 (u.tk : Int), .int .u8 (u.fr : Int), .int .u8 (u.to : Int)] ++ intV u.am ++ intV u.fe ++ [.int .u32 (u.bt : Int)]) := fun u => by simp [evC]
  rw [e, e, List.set_append_left _ _ (by simp [h.id]; omega), List.set_append_right _ _ (by simp)]
  simp only [List.length_cons, List.length_nil, Nat.add_sub_cancel_left]
  rw [bytesV_set]
theorem splice_mid {A z R vs : List Value} (h : z.length = vs.length) : splice (A ++ (z ++ R)) A.length vs = A ++ (vs ++ R) := by simp [splice, ← h, List.drop_append]
theorem ev_set_am {t : Ev} (h : EvOk t) {a : List Nat} (ha : a.length = 4) : splice (evC t) 38 (intV a) = evC { t with am := a } := by
  have e : ∀ u : Ev, evC u = ([.int .u8 (u.k : Int), .int .u64 (u.b : Int)] ++ bytesV u.id ++ [.int .u8 (u.sd : Int), .int .u8 (u.tk : Int), .int .u8 (u.fr : Int), .int .u8 (u.to : Int)]) ++ (intV u.am ++ (intV u.fe ++ [.int .u32 (u.bt : Int)])) := fun u => by simp [evC]
  rw [e, e]
  have hl : ([.int .u8 (t.k : Int), .int .u64 (t.b : Int)] ++ bytesV t.id ++ [.int .u8 (t.sd : Int), .int .u8 (t.tk : Int), .int .u8 (t.fr : Int), .int .u8 (t.to : Int)] : List Value).length = 38 := by simp [h.id]
  have := splice_mid (A := [.int .u8 (t.k : Int), .int .u64 (t.b : Int)] ++ bytesV t.id ++ [.int .u8 (t.sd : Int), .int .u8 (t.tk : Int), .int .u8 (t.fr : Int), .int .u8 (t.to : Int)]) (z := intV t.am) (R := intV t.fe ++ [.int .u32 (t.bt : Int)]) (vs := intV a) (by simp [h.am.1, ha])
  rw [hl] at this
  exact this
theorem ev_set_fe {t : Ev} (h : EvOk t) {a : List Nat} (ha : a.length = 4) : splice (evC t) 42 (intV a) = evC { t with fe := a } := by
  have e : ∀ u : Ev, evC u = ([.int .u8 (u.k : Int), .int .u64 (u.b : Int)] ++ bytesV u.id ++ [.int .u8 (u.sd : Int), .int .u8 (u.tk : Int), .int .u8 (u.fr : Int), .int .u8 (u.to : Int)] ++ intV u.am) ++ (intV u.fe ++ [.int .u32 (u.bt : Int)]) := fun u => by simp [evC]
  rw [e, e]
  have hl : ([.int .u8 (t.k : Int), .int .u64 (t.b : Int)] ++ bytesV t.id ++ [.int .u8 (t.sd : Int), .int .u8 (t.tk : Int), .int .u8 (t.fr : Int), .int .u8 (t.to : Int)] ++ intV t.am : List Value).length = 42 := by simp [h.id, h.am.1]
  have := splice_mid (A := [.int .u8 (t.k : Int), .int .u64 (t.b : Int)] ++ bytesV t.id ++ [.int .u8 (t.sd : Int), .int .u8 (t.tk : Int), .int .u8 (t.fr : Int), .int .u8 (t.to : Int)] ++ intV t.am) (z := intV t.fe) (R := [.int .u32 (t.bt : Int)]) (vs := intV a) (by simp [h.fe.1, ha])
  rw [hl] at this
  exact this
theorem ev_set_bt {t : Ev} (h : EvOk t) (x : Nat) : (evC t).set 46 (.int .u32 (x : Int)) = evC { t with bt := x } := by
  have e : ∀ u : Ev, evC u = ([.int .u8 (u.k : Int), .int .u64 (u.b : Int)] ++ bytesV u.id ++ [.int .u8 (u.sd : Int), .int .u8 (u.tk : Int), .int .u8 (u.fr : Int), .int .u8 (u.to : Int)] ++ intV u.am ++ intV u.fe) ++ [.int .u32 (u.bt : Int)] := fun u => by simp [evC]
  rw [e, e, List.set_append_right _ _ (by simp [h.id, h.am.1, h.fe.1])]
  simp [h.id, h.am.1, h.fe.1]
theorem bldEv6 {k b sd tk fr to : Nat} :
    okS (fun i => ([(0, 1), (1, 1), (2, 32), (34, 1), (35, 1), (36, 1), (37, 1), (38, 4), (42, 4), (46, 1)] : List (Nat × Nat))[i]?)
      ([.int .u8 0] ++ [.int .u64 0] ++ (List.replicate 32 (.int .u8 0)) ++ [.int .u8 0] ++ [.int .u8 0] ++ [.int .u8 0] ++ [.int .u8 0] ++ (List.replicate 4 (.int .u64 0)) ++ (List.replicate 4 (.int .u64 0)) ++ [.int .u32 0])
      [(0, .int .u8 (k : Int)), (1, .int .u64 (b : Int)), (3, .int .u8 (sd : Int)), (4, .int .u8 (tk : Int)), (5, .int .u8 (fr : Int)), (6, .int .u8 (to : Int))]
      [[.int .u8 (k : Int)], [.int .u64 (b : Int)], [.int .u8 (sd : Int)], [.int .u8 (tk : Int)], [.int .u8 (fr : Int)], [.int .u8 (to : Int)]] (evC ⟨k, b, List.replicate 32 0, sd, tk, fr, to, [0, 0, 0, 0], [0, 0, 0, 0], 0⟩) :=
  ⟨0, 1, rfl, rfl, rfl, by simp, 1, 1, rfl, rfl, rfl, by simp [splice], 34, 1, rfl, rfl, rfl, by simp [splice], 35, 1, rfl, rfl, rfl, by simp [splice], 36, 1, rfl, rfl, rfl, by simp [splice], 37, 1, rfl, rfl, rfl, by simp [splice], rfl⟩

end Go.Proofs.Ytpngjgcbdaogmaa
