/- Walks, written by gen.py off the translation's own print: each says what the Go function comes to. -/
import Derived.Test.YtfgikoilgmddhaaDoorVa
import Derived.Test.YtfgikoilgmddhaaDoorTi
import Derived.Test.YtfgikoilgmddhaaDoorUb
set_option linter.unusedVariables false
set_option linter.unusedSimpArgs false
namespace Go.Proofs.YtfgikoilgmddhaaDoor
open Go.Sx Go.RowKit
attribute [local irreducible] Ac Ex WL WC WX WP Gives sha

theorem oks_splitN {w : World} {ks ls : List CK} {vs : List Value} (n : Nat) (h : CK.oks w (ks ++ ls) vs) (hn : ks.length = n) : CK.oks w ks (vs.take n) ∧ CK.oks w ls (vs.drop n) := by
  subst hn
  exact oks_split ks ls vs h
structure Act where
  k : Nat
  h : List UInt8
  n : Nat
def actC (a : Act) : List Value := .int .u8 (a.k : Int) :: (bytesV a.h ++ [.int .u64 (a.n : Int)])
structure ActOk (a : Act) : Prop where
  k : a.k < 256
  h : H32 a.h
  n : a.n < 18446744073709551616
def act0 : Act := ⟨0, List.replicate 32 0, 0⟩
theorem act0_ok : ActOk act0 := ⟨by decide, h32_0, by decide⟩
theorem act_len {a : Act} (h : ActOk a) : (actC a).length = 34 := by have := h.h; simp [actC, this]
theorem act_one {a : Act} : ∀ u ∈ actC a, u.oneCell' = true := by
  intro u hu
  simp only [actC, List.mem_cons, List.mem_append, List.not_mem_nil, or_false] at hu
  rcases hu with rfl | hu | rfl
  · rfl
  · exact bytesV_one _ u hu
  · rfl
theorem act_1 {a : Act} (h : ActOk a) : ((actC a).drop 1).take 32 = bytesV a.h := by
  have := h.h
  simp [actC, List.take_append, this, List.take_of_length_le]
theorem act_33 {a : Act} (h : ActOk a) : (actC a)[33]? = some (.int .u64 (a.n : Int)) := by
  have := h.h
  simp [actC, List.getElem?_append, this]
theorem act_view {w : World} {vs : List Value} (h : CK.oks w (.int .u8 :: (rep 32 [.int .u8] ++ [.int .u64])) vs) : ∃ a, vs = actC a ∧ ActOk a := by
  obtain ⟨v0, r0, rfl, h0, h2⟩ := h
  obtain ⟨h3, h4⟩ := oks_splitN 32 h2 rfl
  obtain ⟨v2, r2, e4, h5, h6⟩ := h4
  simp only [CK.oks] at h6
  subst h6
  obtain ⟨k, hk, rfl⟩ := ok_u8n h0
  obtain ⟨l, hl, e3⟩ := oks_u8s 32 _ h3
  obtain ⟨n, hn, rfl⟩ := ok_u64 h5
  refine ⟨⟨k, l, n⟩, ?_, hk, hl, hn⟩
  rw [← List.take_append_drop 32 r0, e3, e4]
  rfl
theorem ok_acts {w : World} {v : Value} (h : CK.ok w (.sl (.int .u8 :: (rep 32 [.int .u8] ++ [.int .u64]))) v) : ∃ A c, ∃ acts : List Act, v = .slice A acts.length c ∧ acts.length ≤ c ∧ c ≤ maxLen ∧ Rd w A (acts.flatMap actC) ∧ ∀ a ∈ acts, ActOk a := by
  obtain ⟨A, c, es, h1, h2, h3, h4, h5⟩ := sl_view h actC ActOk (fun vs hv => act_view hv)
  exact ⟨A, c, es, h1, h2, h3, h4, h5⟩
theorem _root_.Go.Sx.Ac.appT {P : Program} {n : Nat} {env : Env} {w : World} {dst : Option Nat} {ty : TypeId} {pos : String} {aft : Array Edge} {g : Option (Nat × Bool)} {t e : TypeId} {sz bytes : Nat} (h : El P t e sz bytes) {s x : Operand} {m k c : Nat} {v : Value} {A : Option Addr} {xs news : List Value} (hr0 : (row v e sz m xs).sat w) (hs : ev env s = some v) (hx : ev env x = some (.slice A k c))
    (hl : news.length = k * sz) (hr : Rd w A news) (h1 : ∀ u ∈ news, u.oneCell' = true) (hb : (m + k) * bytes ≤ 140737488355328) (h63 : m + k ≤ maxLen) :
    Ac P n env (Oper.mk dst (.call { callee := .builtin .append, args := #[s, x], argTypes := #[t, t] }) ty pos aft g) w fun u w' => Turn w w' (row v e sz m xs) (row u e sz (m + k) (xs ++ news)) :=
  Ac.of_run fun a ha => by
    obtain ⟨v', w', h2, h3, h4, h5⟩ := run_app (c := c) h ty hr0 hl hr h1 hb h63
    exact ⟨v', w', by simp [execOp, resolve, invoke, builtin, ha.eval hs, ha.eval hx, h2], h4, h3, h5⟩
theorem _root_.Go.Sx.Mem.cutR {w0 w : World} {F : Nat → Prop} {rs : List Res} (M : Mem w0 w F rs) {i n m : Nat} {A : Option Addr} {c : Nat} {e : TypeId} {sz : Nat} {xs : List Value} (hi : rs[i]? = some (row (.slice A n c) e sz n xs)) (hm : m ≤ n) : Mem w0 w F (rs.set i (row (.slice A m c) e sz m (xs.take (m * sz)))) :=
  M.turn hi (Keep.refl _ _) (own_cut (M.get hi) hm) fun b hb => .inl (by cases A with | none => cases hb | some a => exact hb)
theorem own_cap {w : World} {A : Option Addr} {c n sz : Nat} {e : TypeId} {xs : List Value} (h : (row (.slice A n c) e sz n xs).sat w) : n ≤ c := by
  rcases h.2 with ⟨hv, hn⟩ | ⟨g, cap, cur, hv, hb, hg, hnc, _⟩
  · omega
  · simp only [Value.slice.injEq] at hv
    omega
theorem places_0 {d : Nat} : places d 0 = 2 ^ d := by
  unfold places
  rw [if_pos (by omega)]
  simp
theorem pow32 {d : Nat} (h : d ≤ 32) : 2 ^ d ≤ 4294967296 := Nat.le_trans (Nat.pow_le_pow_right (show 0 < 2 by decide) h) (by decide)

end Go.Proofs.YtfgikoilgmddhaaDoor
