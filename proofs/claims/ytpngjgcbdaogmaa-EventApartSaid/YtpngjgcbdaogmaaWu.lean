/- Walks, written by gen.py off the translation's own print: each says what the Go function comes to. -/
import Derived.Test.YtpngjgcbdaogmaaWt
set_option linter.unusedVariables false
set_option linter.unusedSimpArgs false
namespace Go.Proofs.Ytpngjgcbdaogmaa
open Go.Sx Go.RowKit
attribute [local irreducible] Ac Ex WL WC WX WP Gives

/-- One take behind the other. -/
def takes : RS → List Nat → RS
  | s, [] => s
  | s, n :: r => takes (rTake s n).2 r
theorem takes_4 : ∀ ns : List Nat, (∀ n ∈ ns, 0 < n) → takes ([], 4) ns = ([], 4)
  | [], _ => rfl
  | n :: r, h => by
    have hn := h n (by simp)
    have e : rTake ([], 4) n = ([], ([], 4)) := by rw [rTake, if_pos (by simpa using hn)]; rfl
    rw [takes, e]
    exact takes_4 r fun m hm => h m (by simp [hm])
theorem takes_few : ∀ (ns : List Nat) (l : List UInt8), (∀ n ∈ ns, 0 < n) → l.length < ns.sum → takes (l, 0) ns = ([], 4)
  | [], l, _, h => by simp at h
  | n :: r, l, h, hl => by
    rw [takes]
    by_cases h1 : l.length < n
    · have e : rTake (l, 0) n = ([], ([], 4)) := by rw [rTake, if_pos h1]; rfl
      rw [e]
      exact takes_4 r fun m hm => h m (by simp [hm])
    · have e : rTake (l, 0) n = (l.take n, (l.drop n, 0)) := by rw [rTake, if_neg h1]
      rw [e]
      refine takes_few r (l.drop n) (fun m hm => h m (by simp [hm])) ?_
      simp only [List.sum_cons] at hl
      simp
      omega
theorem okS_step {pl : Nat → Option (Nat × Nat)} {A z R vs l : List Value} {i : Nat} {v : Value} {r : List (Nat × Value)} {s : List (List Value)} (h1 : pl i = some (A.length, z.length)) (h2 : v.cells = vs.toArray) (h3 : vs.length = z.length) (h : okS pl ((A ++ vs) ++ R) r s l) :
    okS pl (A ++ (z ++ R)) ((i, v) :: r) (vs :: s) l := by
  refine ⟨A.length, z.length, h1, h2, h3, by simp, ?_⟩
  have e : splice (A ++ (z ++ R)) A.length vs = (A ++ vs) ++ R := by simp [splice, h3, List.drop_append]
  rw [e]
  exact h
theorem bldEv {k b sd tk fr to bt : Nat} {id : List UInt8} {am fe : List Nat} (hi : id.length = 32) (ha : am.length = 4) (hf : fe.length = 4) :
    okS (fun i => ([(0, 1), (1, 1), (2, 32), (34, 1), (35, 1), (36, 1), (37, 1), (38, 4), (42, 4), (46, 1)] : List (Nat × Nat))[i]?)
      ([.int .u8 0] ++ [.int .u64 0] ++ (List.replicate 32 (.int .u8 0)) ++ [.int .u8 0] ++ [.int .u8 0] ++ [.int .u8 0] ++ [.int .u8 0] ++ (List.replicate 4 (.int .u64 0)) ++ (List.replicate 4 (.int .u64 0)) ++ [.int .u32 0])
      [(0, .int .u8 (k : Int)), (1, .int .u64 (b : Int)), (2, .agg (bytesV id).toArray), (3, .int .u8 (sd : Int)), (4, .int .u8 (tk : Int)), (5, .int .u8 (fr : Int)), (6, .int .u8 (to : Int)), (7, .agg (intV am).toArray), (8, .agg (intV fe).toArray), (9, .int .u32 (bt : Int))]
      [[.int .u8 (k : Int)], [.int .u64 (b : Int)], bytesV id, [.int .u8 (sd : Int)], [.int .u8 (tk : Int)], [.int .u8 (fr : Int)], [.int .u8 (to : Int)], intV am, intV fe, [.int .u32 (bt : Int)]] (evC ⟨k, b, id, sd, tk, fr, to, am, fe, bt⟩) := by
  have e : ∀ a1 a2 a3 a4 a5 a6 a7 a8 a9 a10 : List Value, a1 ++ a2 ++ a3 ++ a4 ++ a5 ++ a6 ++ a7 ++ a8 ++ a9 ++ a10 = [] ++ (a1 ++ (a2 ++ (a3 ++ (a4 ++ (a5 ++ (a6 ++ (a7 ++ (a8 ++ (a9 ++ (a10 ++ [])))))))))) := by intros; simp
  rw [e]
  refine okS_step rfl rfl rfl (okS_step rfl rfl rfl (okS_step rfl rfl (by simp [hi]) (okS_step (by simp [hi]) rfl rfl (okS_step (by simp [hi]) rfl rfl (okS_step (by simp [hi]) rfl rfl (okS_step (by simp [hi]) rfl rfl (okS_step (by simp [hi]) rfl (by simp [ha]) (okS_step (by simp [hi, ha]) rfl (by simp [hf]) (okS_step (by simp [hi, ha, hf]) rfl rfl ?_)))))))))
  show _ = _
  simp [evC]

end Go.Proofs.Ytpngjgcbdaogmaa
