/- Walks, written by gen.py off the translation's own print: each says what the Go function comes to. -/
import Derived.Test.YtnjbhhedaloghaaDoorPa
import Derived.Test.YtnjbhhedaloghaaDoorEq
import Derived.Test.YtnjbhhedaloghaaDoorIn
set_option linter.unusedVariables false
set_option linter.unusedSimpArgs false
namespace Go.Proofs.YtnjbhhedaloghaaDoor
open Go.Sx Go.RowKit
attribute [local irreducible] Ac Ex WL WC WX WP Gives

theorem eqInt (w : World) {a b : List Nat} (ha : Int4 a) (hb : Int4 b) : EqT Tryd.prog 35 (intV a) (intV b) (decide (a = b)) :=
  EqT.to (EqT_of (w := w) (n := 8) (ks := rep 4 [.int .u64]) (by kernel_rfl) rfl (by kernel_rfl) (by decide) (by kernel_rfl) (by kernel_rfl) (by kernel_rfl)
    (by have := oks_u64 (w := w) a ha.mem; rw [ha.1] at this; exact this) (by have := oks_u64 (w := w) b hb.mem; rw [hb.1] at this; exact this)) ⟨intV_inj, fun e => by rw [e]⟩
theorem eqHash (w : World) {a b : List UInt8} (ha : a.length = 32) (hb : b.length = 32) : EqT Tryd.prog 40 (bytesV a) (bytesV b) (decide (a = b)) :=
  EqT.to (EqT_of (w := w) (n := 8) (ks := rep 32 [.int .u8]) (by kernel_rfl) rfl (by kernel_rfl) (by decide) (by kernel_rfl) (by kernel_rfl) (by kernel_rfl)
    (by have := oks_u8 (w := w) a; rw [ha] at this; exact this) (by have := oks_u8 (w := w) b; rw [hb] at this; exact this)) ⟨bytesV_inj, fun e => by rw [e]⟩


theorem int4_0 : Int4 [0, 0, 0, 0] := int4z
/-- An intent. -/
structure Itt where
  ix : Nat
  tk : Nat
  ow : Nat
  am : List Nat
instance : DecidableEq Itt := fun a b => decidable_of_iff (a.ix = b.ix ∧ a.tk = b.tk ∧ a.ow = b.ow ∧ a.am = b.am) (by cases a; cases b; simp)
def ittC (t : Itt) : List Value := [.int .u32 (t.ix : Int), .int .u8 (t.tk : Int), .int .u8 (t.ow : Int)] ++ intV t.am
structure IttOk (t : Itt) : Prop where
  ix : t.ix < 4294967296
  tk : t.tk < 256
  ow : t.ow < 256
  am : Int4 t.am
def itt0 : Itt := ⟨0, 0, 0, [0, 0, 0, 0]⟩
theorem itt0_ok : IttOk itt0 := ⟨by decide, by decide, by decide, int4_0⟩
def ittB (t : Itt) : List UInt8 := be 4 t.ix ++ (be 1 t.tk ++ (be 1 t.ow ++ intB t.am))
@[simp] theorem ittB_len (t : Itt) : (ittB t).length = 38 := by simp [ittB]
def mayI (t : Itt) : Prop := t.tk ≤ 3 ∧ t.ow ≤ 15 ∧ t.am ≠ [0, 0, 0, 0]
instance (t : Itt) : Decidable (mayI t) := by unfold mayI; infer_instance
theorem itt_len {t : Itt} (h : IttOk t) : (ittC t).length = 7 := by simp [ittC, h.am.1]
theorem itt_3 {t : Itt} (h : IttOk t) : ((ittC t).drop 3).take 4 = intV t.am := by simp [ittC, h.am.1, List.take_of_length_le]
theorem itt_one {t : Itt} : ∀ u ∈ ittC t, u.oneCell' = true := by
  intro u hu
  simp only [ittC, List.mem_append, List.mem_cons, List.not_mem_nil, or_false] at hu
  rcases hu with (rfl | rfl | rfl) | hu
  · rfl
  · rfl
  · rfl
  · exact intV_one _ u hu
theorem ittC_inj {a b : Itt} (h : ittC a = ittC b) : a = b := by
  simp only [ittC, List.cons_append, List.nil_append, List.cons.injEq, Value.int.injEq, true_and] at h
  obtain ⟨h1, h2, h3, h4⟩ := h
  cases a; cases b
  simp only at h1 h2 h3 h4
  rw [Itt.mk.injEq]
  exact ⟨by omega, by omega, by omega, intV_inj h4⟩
theorem oks_u1 {w : World} {k : IntKind} {ks : List CK} {x : Nat} {vs : List Value} (h : (Lit.int k (x : Int)).wf = true) (hr : CK.oks w ks vs) : CK.oks w (.int k :: ks) (.int k (x : Int) :: vs) := ⟨_, _, rfl, ⟨_, rfl, h⟩, hr⟩
theorem wf_u32 {x : Nat} (h : x < 4294967296) : (Lit.int .u32 (x : Int)).wf = true := by simp [Lit.wf, IntKind.min, IntKind.max, IntKind.signed, IntKind.bits]; omega
theorem wf_u8 {x : Nat} (h : x < 256) : (Lit.int .u8 (x : Int)).wf = true := by simp [Lit.wf, IntKind.min, IntKind.max, IntKind.signed, IntKind.bits]; omega
theorem wf_u64 {x : Nat} (h : x < 18446744073709551616) : (Lit.int .u64 (x : Int)).wf = true := by simp [Lit.wf, IntKind.min, IntKind.max, IntKind.signed, IntKind.bits]; omega
theorem oks_int4 {w : World} {a : List Nat} (h : Int4 a) : CK.oks w (rep 4 [.int .u64]) (intV a) := by have := oks_u64 (w := w) a h.mem; rw [h.1] at this; exact this
abbrev ittK : List CK := .int .u32 :: .int .u8 :: .int .u8 :: rep 4 [.int .u64]
theorem oks_itt {w : World} {t : Itt} (h : IttOk t) : CK.oks w ittK (ittC t) := oks_u1 (wf_u32 h.ix) (oks_u1 (wf_u8 h.tk) (oks_u1 (wf_u8 h.ow) (oks_int4 h.am)))
theorem eqItt (w : World) {a b : Itt} (ha : IttOk a) (hb : IttOk b) : EqT Tryd.prog 38 (ittC a) (ittC b) (decide (a = b)) :=
  EqT.to (EqT_of (w := w) (n := 8) (ks := ittK) (by kernel_rfl) rfl (by kernel_rfl) (by decide) (by kernel_rfl) (by kernel_rfl) (by kernel_rfl) (oks_itt ha) (oks_itt hb)) ⟨ittC_inj, fun e => by rw [e]⟩
theorem bldItt {ix tk ow : Nat} {am : List Nat} (h : am.length = 4) :
    okS (fun i => ([(0, 1), (1, 1), (2, 1), (3, 4)] : List (Nat × Nat))[i]?) ([.int .u32 0] ++ [.int .u8 0] ++ [.int .u8 0] ++ (List.replicate 4 (.int .u64 0))) [(0, .int .u32 (ix : Int)), (1, .int .u8 (tk : Int)), (2, .int .u8 (ow : Int)), (3, .agg (intV am).toArray)]
      [[.int .u32 (ix : Int)], [.int .u8 (tk : Int)], [.int .u8 (ow : Int)], intV am] (ittC ⟨ix, tk, ow, am⟩) :=
  ⟨0, 1, rfl, rfl, rfl, by simp, 1, 1, rfl, rfl, rfl, by simp [splice], 2, 1, rfl, rfl, rfl, by simp [splice], 3, 4, rfl, rfl, by simp [h], by simp [splice], by show splice _ _ _ = _; simp [splice, ittC, h]⟩

theorem itt_view {w : World} : ∀ vs, CK.oks w ittK vs → ∃ t, vs = ittC t ∧ IttOk t := by
  intro vs h
  obtain ⟨v0, r0, rfl, h0, v1, r1, rfl, h1, v2, r2, rfl, h2, h3⟩ := h
  obtain ⟨x0, p0, rfl⟩ := ok_u32 h0
  obtain ⟨x1, p1, rfl⟩ := ok_u8n h1
  obtain ⟨x2, p2, rfl⟩ := ok_u8n h2
  obtain ⟨a, rfl, p3⟩ := int4_view _ h3
  exact ⟨⟨x0, x1, x2, a⟩, rfl, ⟨p0, p1, p2, p3⟩⟩

abbrev prfC (l : List (List UInt8)) : List Value := l.flatMap bytesV
abbrev PrfOk (l : List (List UInt8)) : Prop := ArrOk 32 (fun a => H32 a) l
theorem prf_len {l : List (List UInt8)} (h : PrfOk l) : (prfC l).length = 1024 := arr_len (fun h => h32_len h) h rfl
theorem prf_one {l : List (List UInt8)} : ∀ u ∈ prfC l, u.oneCell' = true := flat_one' fun _ => (bytesV_one _)
abbrev prf0 : List (List UInt8) := List.replicate 32 (List.replicate 32 0)
theorem prf0_ok : PrfOk prf0 := ⟨by simp, fun a ha => by rw [List.eq_of_mem_replicate ha]; exact h32_0⟩
theorem prfC_inj {a b : List (List UInt8)} (ha : PrfOk a) (hb : PrfOk b) (h : prfC a = prfC b) : a = b := flat_inj (ok := fun a => H32 a) (fun _ _ e => (fun e => bytesV_inj e) e) (fun h => h32_len h) (by rw [ha.len, hb.len]) ha.mem hb.mem h
abbrev prfK : List CK := rep 32 (rep 32 [.int .u8])
theorem oks_prf {w : World} {l : List (List UInt8)} (h : PrfOk l) : CK.oks w prfK (prfC l) := oks_arr (fun h => oks_h32 h) h
theorem prf_view {w : World} : ∀ vs, CK.oks w prfK vs → ∃ a, vs = prfC a ∧ PrfOk a := arr_view h32_view 32

structure Cl where
  kind : Nat
  from_ : Nat
  nonce : Nat
  side : Nat
  token : Nat
  to_ : Nat
  amount : List Nat
  intent : Itt
  other : Itt
  batch : Nat
  proof : List (List UInt8)
instance : DecidableEq Cl := fun x y => decidable_of_iff (x.kind = y.kind ∧ x.from_ = y.from_ ∧ x.nonce = y.nonce ∧ x.side = y.side ∧ x.token = y.token ∧ x.to_ = y.to_ ∧ x.amount = y.amount ∧ x.intent = y.intent ∧ x.other = y.other ∧ x.batch = y.batch ∧ x.proof = y.proof) (by cases x; cases y; simp)
def clC (t : Cl) : List Value := [.int .u8 (t.kind : Int)] ++ ([.int .u8 (t.from_ : Int)] ++ ([.int .u64 (t.nonce : Int)] ++ ([.int .u8 (t.side : Int)] ++ ([.int .u8 (t.token : Int)] ++ ([.int .u8 (t.to_ : Int)] ++ (intV t.amount ++ (ittC t.intent ++ (ittC t.other ++ ([.int .u32 (t.batch : Int)] ++ (prfC t.proof))))))))))
structure ClOk (t : Cl) : Prop where
  kind : t.kind < 256
  from_ : t.from_ < 256
  nonce : t.nonce < 18446744073709551616
  side : t.side < 256
  token : t.token < 256
  to_ : t.to_ < 256
  amount : Int4 t.amount
  intent : IttOk t.intent
  other : IttOk t.other
  batch : t.batch < 4294967296
  proof : PrfOk t.proof
def cl0 : Cl := ⟨0, 0, 0, 0, 0, 0, [0, 0, 0, 0], itt0, itt0, 0, prf0⟩
theorem cl0_ok : ClOk cl0 := ⟨by decide, by decide, by decide, by decide, by decide, by decide, int4_0, itt0_ok, itt0_ok, by decide, prf0_ok⟩
theorem cl_len {t : Cl} (h : ClOk t) : (clC t).length = 1049 := by simp [clC, int4_len h.amount, itt_len h.intent, itt_len h.other, prf_len h.proof]
theorem cl_one {t : Cl} : ∀ u ∈ clC t, u.oneCell' = true := by
  intro u hu
  simp only [clC, List.mem_append, List.mem_cons, List.not_mem_nil, or_false] at hu
  rcases hu with rfl | rfl | rfl | rfl | rfl | rfl | hu | hu | hu | rfl | hu
  · rfl
  · rfl
  · rfl
  · rfl
  · rfl
  · rfl
  · exact (intV_one _) u hu
  · exact itt_one u hu
  · exact itt_one u hu
  · rfl
  · exact (prf_one) u hu
theorem cl_g0 {t : Cl} (h : ClOk t) : (clC t)[0]? = some (.int .u8 (t.kind : Int)) := by
  have e : clC t = (([] : List Value)) ++ ([.int .u8 (t.kind : Int)] ++ ([.int .u8 (t.from_ : Int)] ++ ([.int .u64 (t.nonce : Int)] ++ ([.int .u8 (t.side : Int)] ++ ([.int .u8 (t.token : Int)] ++ ([.int .u8 (t.to_ : Int)] ++ (intV t.amount ++ (ittC t.intent ++ (ittC t.other ++ ([.int .u32 (t.batch : Int)] ++ (prfC t.proof))))))))))) := by simp only [clC, List.append_assoc, List.nil_append, List.append_nil]
  rw [e]
  exact cell_at (by simp [int4_len h.amount, itt_len h.intent, itt_len h.other, prf_len h.proof])
theorem cl_s0 {t : Cl} (h : ClOk t) (x : Nat) : (clC t).set 0 (.int .u8 (x : Int)) = clC { t with kind := x } := by
  have e : clC t = (([] : List Value)) ++ ([.int .u8 (t.kind : Int)] ++ ([.int .u8 (t.from_ : Int)] ++ ([.int .u64 (t.nonce : Int)] ++ ([.int .u8 (t.side : Int)] ++ ([.int .u8 (t.token : Int)] ++ ([.int .u8 (t.to_ : Int)] ++ (intV t.amount ++ (ittC t.intent ++ (ittC t.other ++ ([.int .u32 (t.batch : Int)] ++ (prfC t.proof))))))))))) := by simp only [clC, List.append_assoc, List.nil_append, List.append_nil]
  rw [e, set_at (by simp [int4_len h.amount, itt_len h.intent, itt_len h.other, prf_len h.proof])]
  simp only [clC, List.append_assoc, List.nil_append, List.append_nil]
theorem cl_g1 {t : Cl} (h : ClOk t) : (clC t)[1]? = some (.int .u8 (t.from_ : Int)) := by
  have e : clC t = ([.int .u8 (t.kind : Int)]) ++ ([.int .u8 (t.from_ : Int)] ++ ([.int .u64 (t.nonce : Int)] ++ ([.int .u8 (t.side : Int)] ++ ([.int .u8 (t.token : Int)] ++ ([.int .u8 (t.to_ : Int)] ++ (intV t.amount ++ (ittC t.intent ++ (ittC t.other ++ ([.int .u32 (t.batch : Int)] ++ (prfC t.proof)))))))))) := by simp only [clC, List.append_assoc, List.nil_append, List.append_nil]
  rw [e]
  exact cell_at (by simp [int4_len h.amount, itt_len h.intent, itt_len h.other, prf_len h.proof])
theorem cl_s1 {t : Cl} (h : ClOk t) (x : Nat) : (clC t).set 1 (.int .u8 (x : Int)) = clC { t with from_ := x } := by
  have e : clC t = ([.int .u8 (t.kind : Int)]) ++ ([.int .u8 (t.from_ : Int)] ++ ([.int .u64 (t.nonce : Int)] ++ ([.int .u8 (t.side : Int)] ++ ([.int .u8 (t.token : Int)] ++ ([.int .u8 (t.to_ : Int)] ++ (intV t.amount ++ (ittC t.intent ++ (ittC t.other ++ ([.int .u32 (t.batch : Int)] ++ (prfC t.proof)))))))))) := by simp only [clC, List.append_assoc, List.nil_append, List.append_nil]
  rw [e, set_at (by simp [int4_len h.amount, itt_len h.intent, itt_len h.other, prf_len h.proof])]
  simp only [clC, List.append_assoc, List.nil_append, List.append_nil]
theorem cl_g2 {t : Cl} (h : ClOk t) : (clC t)[2]? = some (.int .u64 (t.nonce : Int)) := by
  have e : clC t = ([.int .u8 (t.kind : Int)] ++ ([.int .u8 (t.from_ : Int)])) ++ ([.int .u64 (t.nonce : Int)] ++ ([.int .u8 (t.side : Int)] ++ ([.int .u8 (t.token : Int)] ++ ([.int .u8 (t.to_ : Int)] ++ (intV t.amount ++ (ittC t.intent ++ (ittC t.other ++ ([.int .u32 (t.batch : Int)] ++ (prfC t.proof))))))))) := by simp only [clC, List.append_assoc, List.nil_append, List.append_nil]
  rw [e]
  exact cell_at (by simp [int4_len h.amount, itt_len h.intent, itt_len h.other, prf_len h.proof])
theorem cl_s2 {t : Cl} (h : ClOk t) (x : Nat) : (clC t).set 2 (.int .u64 (x : Int)) = clC { t with nonce := x } := by
  have e : clC t = ([.int .u8 (t.kind : Int)] ++ ([.int .u8 (t.from_ : Int)])) ++ ([.int .u64 (t.nonce : Int)] ++ ([.int .u8 (t.side : Int)] ++ ([.int .u8 (t.token : Int)] ++ ([.int .u8 (t.to_ : Int)] ++ (intV t.amount ++ (ittC t.intent ++ (ittC t.other ++ ([.int .u32 (t.batch : Int)] ++ (prfC t.proof))))))))) := by simp only [clC, List.append_assoc, List.nil_append, List.append_nil]
  rw [e, set_at (by simp [int4_len h.amount, itt_len h.intent, itt_len h.other, prf_len h.proof])]
  simp only [clC, List.append_assoc, List.nil_append, List.append_nil]
theorem cl_g3 {t : Cl} (h : ClOk t) : (clC t)[3]? = some (.int .u8 (t.side : Int)) := by
  have e : clC t = ([.int .u8 (t.kind : Int)] ++ ([.int .u8 (t.from_ : Int)] ++ ([.int .u64 (t.nonce : Int)]))) ++ ([.int .u8 (t.side : Int)] ++ ([.int .u8 (t.token : Int)] ++ ([.int .u8 (t.to_ : Int)] ++ (intV t.amount ++ (ittC t.intent ++ (ittC t.other ++ ([.int .u32 (t.batch : Int)] ++ (prfC t.proof)))))))) := by simp only [clC, List.append_assoc, List.nil_append, List.append_nil]
  rw [e]
  exact cell_at (by simp [int4_len h.amount, itt_len h.intent, itt_len h.other, prf_len h.proof])
theorem cl_s3 {t : Cl} (h : ClOk t) (x : Nat) : (clC t).set 3 (.int .u8 (x : Int)) = clC { t with side := x } := by
  have e : clC t = ([.int .u8 (t.kind : Int)] ++ ([.int .u8 (t.from_ : Int)] ++ ([.int .u64 (t.nonce : Int)]))) ++ ([.int .u8 (t.side : Int)] ++ ([.int .u8 (t.token : Int)] ++ ([.int .u8 (t.to_ : Int)] ++ (intV t.amount ++ (ittC t.intent ++ (ittC t.other ++ ([.int .u32 (t.batch : Int)] ++ (prfC t.proof)))))))) := by simp only [clC, List.append_assoc, List.nil_append, List.append_nil]
  rw [e, set_at (by simp [int4_len h.amount, itt_len h.intent, itt_len h.other, prf_len h.proof])]
  simp only [clC, List.append_assoc, List.nil_append, List.append_nil]
theorem cl_g4 {t : Cl} (h : ClOk t) : (clC t)[4]? = some (.int .u8 (t.token : Int)) := by
  have e : clC t = ([.int .u8 (t.kind : Int)] ++ ([.int .u8 (t.from_ : Int)] ++ ([.int .u64 (t.nonce : Int)] ++ ([.int .u8 (t.side : Int)])))) ++ ([.int .u8 (t.token : Int)] ++ ([.int .u8 (t.to_ : Int)] ++ (intV t.amount ++ (ittC t.intent ++ (ittC t.other ++ ([.int .u32 (t.batch : Int)] ++ (prfC t.proof))))))) := by simp only [clC, List.append_assoc, List.nil_append, List.append_nil]
  rw [e]
  exact cell_at (by simp [int4_len h.amount, itt_len h.intent, itt_len h.other, prf_len h.proof])
theorem cl_s4 {t : Cl} (h : ClOk t) (x : Nat) : (clC t).set 4 (.int .u8 (x : Int)) = clC { t with token := x } := by
  have e : clC t = ([.int .u8 (t.kind : Int)] ++ ([.int .u8 (t.from_ : Int)] ++ ([.int .u64 (t.nonce : Int)] ++ ([.int .u8 (t.side : Int)])))) ++ ([.int .u8 (t.token : Int)] ++ ([.int .u8 (t.to_ : Int)] ++ (intV t.amount ++ (ittC t.intent ++ (ittC t.other ++ ([.int .u32 (t.batch : Int)] ++ (prfC t.proof))))))) := by simp only [clC, List.append_assoc, List.nil_append, List.append_nil]
  rw [e, set_at (by simp [int4_len h.amount, itt_len h.intent, itt_len h.other, prf_len h.proof])]
  simp only [clC, List.append_assoc, List.nil_append, List.append_nil]
theorem cl_g5 {t : Cl} (h : ClOk t) : (clC t)[5]? = some (.int .u8 (t.to_ : Int)) := by
  have e : clC t = ([.int .u8 (t.kind : Int)] ++ ([.int .u8 (t.from_ : Int)] ++ ([.int .u64 (t.nonce : Int)] ++ ([.int .u8 (t.side : Int)] ++ ([.int .u8 (t.token : Int)]))))) ++ ([.int .u8 (t.to_ : Int)] ++ (intV t.amount ++ (ittC t.intent ++ (ittC t.other ++ ([.int .u32 (t.batch : Int)] ++ (prfC t.proof)))))) := by simp only [clC, List.append_assoc, List.nil_append, List.append_nil]
  rw [e]
  exact cell_at (by simp [int4_len h.amount, itt_len h.intent, itt_len h.other, prf_len h.proof])
theorem cl_s5 {t : Cl} (h : ClOk t) (x : Nat) : (clC t).set 5 (.int .u8 (x : Int)) = clC { t with to_ := x } := by
  have e : clC t = ([.int .u8 (t.kind : Int)] ++ ([.int .u8 (t.from_ : Int)] ++ ([.int .u64 (t.nonce : Int)] ++ ([.int .u8 (t.side : Int)] ++ ([.int .u8 (t.token : Int)]))))) ++ ([.int .u8 (t.to_ : Int)] ++ (intV t.amount ++ (ittC t.intent ++ (ittC t.other ++ ([.int .u32 (t.batch : Int)] ++ (prfC t.proof)))))) := by simp only [clC, List.append_assoc, List.nil_append, List.append_nil]
  rw [e, set_at (by simp [int4_len h.amount, itt_len h.intent, itt_len h.other, prf_len h.proof])]
  simp only [clC, List.append_assoc, List.nil_append, List.append_nil]
theorem cl_g6 {t : Cl} (h : ClOk t) : ((clC t).drop 6).take 4 = intV t.amount := by
  have e : clC t = ([.int .u8 (t.kind : Int)] ++ ([.int .u8 (t.from_ : Int)] ++ ([.int .u64 (t.nonce : Int)] ++ ([.int .u8 (t.side : Int)] ++ ([.int .u8 (t.token : Int)] ++ ([.int .u8 (t.to_ : Int)])))))) ++ (intV t.amount ++ (ittC t.intent ++ (ittC t.other ++ ([.int .u32 (t.batch : Int)] ++ (prfC t.proof))))) := by simp only [clC, List.append_assoc, List.nil_append, List.append_nil]
  rw [e]
  exact seg_at (by simp [int4_len h.amount, itt_len h.intent, itt_len h.other, prf_len h.proof]) (int4_len h.amount)
theorem cl_s6 {t : Cl} (h : ClOk t) {x : List Nat} (hx : Int4 x) : splice (clC t) 6 (intV x) = clC { t with amount := x } := by
  have e : clC t = ([.int .u8 (t.kind : Int)] ++ ([.int .u8 (t.from_ : Int)] ++ ([.int .u64 (t.nonce : Int)] ++ ([.int .u8 (t.side : Int)] ++ ([.int .u8 (t.token : Int)] ++ ([.int .u8 (t.to_ : Int)])))))) ++ (intV t.amount ++ (ittC t.intent ++ (ittC t.other ++ ([.int .u32 (t.batch : Int)] ++ (prfC t.proof))))) := by simp only [clC, List.append_assoc, List.nil_append, List.append_nil]
  rw [e, splice_at (by simp [int4_len h.amount, itt_len h.intent, itt_len h.other, prf_len h.proof]) (by rw [int4_len h.amount, int4_len hx])]
  simp only [clC, List.append_assoc, List.nil_append, List.append_nil]
theorem cl_g10 {t : Cl} (h : ClOk t) : ((clC t).drop 10).take 7 = ittC t.intent := by
  have e : clC t = ([.int .u8 (t.kind : Int)] ++ ([.int .u8 (t.from_ : Int)] ++ ([.int .u64 (t.nonce : Int)] ++ ([.int .u8 (t.side : Int)] ++ ([.int .u8 (t.token : Int)] ++ ([.int .u8 (t.to_ : Int)] ++ (intV t.amount))))))) ++ (ittC t.intent ++ (ittC t.other ++ ([.int .u32 (t.batch : Int)] ++ (prfC t.proof)))) := by simp only [clC, List.append_assoc, List.nil_append, List.append_nil]
  rw [e]
  exact seg_at (by simp [int4_len h.amount, itt_len h.intent, itt_len h.other, prf_len h.proof]) (itt_len h.intent)
theorem cl_s10 {t : Cl} (h : ClOk t) {x : Itt} (hx : IttOk x) : splice (clC t) 10 (ittC x) = clC { t with intent := x } := by
  have e : clC t = ([.int .u8 (t.kind : Int)] ++ ([.int .u8 (t.from_ : Int)] ++ ([.int .u64 (t.nonce : Int)] ++ ([.int .u8 (t.side : Int)] ++ ([.int .u8 (t.token : Int)] ++ ([.int .u8 (t.to_ : Int)] ++ (intV t.amount))))))) ++ (ittC t.intent ++ (ittC t.other ++ ([.int .u32 (t.batch : Int)] ++ (prfC t.proof)))) := by simp only [clC, List.append_assoc, List.nil_append, List.append_nil]
  rw [e, splice_at (by simp [int4_len h.amount, itt_len h.intent, itt_len h.other, prf_len h.proof]) (by rw [itt_len h.intent, itt_len hx])]
  simp only [clC, List.append_assoc, List.nil_append, List.append_nil]
theorem cl_g17 {t : Cl} (h : ClOk t) : ((clC t).drop 17).take 7 = ittC t.other := by
  have e : clC t = ([.int .u8 (t.kind : Int)] ++ ([.int .u8 (t.from_ : Int)] ++ ([.int .u64 (t.nonce : Int)] ++ ([.int .u8 (t.side : Int)] ++ ([.int .u8 (t.token : Int)] ++ ([.int .u8 (t.to_ : Int)] ++ (intV t.amount ++ (ittC t.intent)))))))) ++ (ittC t.other ++ ([.int .u32 (t.batch : Int)] ++ (prfC t.proof))) := by simp only [clC, List.append_assoc, List.nil_append, List.append_nil]
  rw [e]
  exact seg_at (by simp [int4_len h.amount, itt_len h.intent, itt_len h.other, prf_len h.proof]) (itt_len h.other)
theorem cl_s17 {t : Cl} (h : ClOk t) {x : Itt} (hx : IttOk x) : splice (clC t) 17 (ittC x) = clC { t with other := x } := by
  have e : clC t = ([.int .u8 (t.kind : Int)] ++ ([.int .u8 (t.from_ : Int)] ++ ([.int .u64 (t.nonce : Int)] ++ ([.int .u8 (t.side : Int)] ++ ([.int .u8 (t.token : Int)] ++ ([.int .u8 (t.to_ : Int)] ++ (intV t.amount ++ (ittC t.intent)))))))) ++ (ittC t.other ++ ([.int .u32 (t.batch : Int)] ++ (prfC t.proof))) := by simp only [clC, List.append_assoc, List.nil_append, List.append_nil]
  rw [e, splice_at (by simp [int4_len h.amount, itt_len h.intent, itt_len h.other, prf_len h.proof]) (by rw [itt_len h.other, itt_len hx])]
  simp only [clC, List.append_assoc, List.nil_append, List.append_nil]
theorem cl_g24 {t : Cl} (h : ClOk t) : (clC t)[24]? = some (.int .u32 (t.batch : Int)) := by
  have e : clC t = ([.int .u8 (t.kind : Int)] ++ ([.int .u8 (t.from_ : Int)] ++ ([.int .u64 (t.nonce : Int)] ++ ([.int .u8 (t.side : Int)] ++ ([.int .u8 (t.token : Int)] ++ ([.int .u8 (t.to_ : Int)] ++ (intV t.amount ++ (ittC t.intent ++ (ittC t.other))))))))) ++ ([.int .u32 (t.batch : Int)] ++ (prfC t.proof)) := by simp only [clC, List.append_assoc, List.nil_append, List.append_nil]
  rw [e]
  exact cell_at (by simp [int4_len h.amount, itt_len h.intent, itt_len h.other, prf_len h.proof])
theorem cl_s24 {t : Cl} (h : ClOk t) (x : Nat) : (clC t).set 24 (.int .u32 (x : Int)) = clC { t with batch := x } := by
  have e : clC t = ([.int .u8 (t.kind : Int)] ++ ([.int .u8 (t.from_ : Int)] ++ ([.int .u64 (t.nonce : Int)] ++ ([.int .u8 (t.side : Int)] ++ ([.int .u8 (t.token : Int)] ++ ([.int .u8 (t.to_ : Int)] ++ (intV t.amount ++ (ittC t.intent ++ (ittC t.other))))))))) ++ ([.int .u32 (t.batch : Int)] ++ (prfC t.proof)) := by simp only [clC, List.append_assoc, List.nil_append, List.append_nil]
  rw [e, set_at (by simp [int4_len h.amount, itt_len h.intent, itt_len h.other, prf_len h.proof])]
  simp only [clC, List.append_assoc, List.nil_append, List.append_nil]
theorem cl_g25 {t : Cl} (h : ClOk t) : ((clC t).drop 25).take 1024 = prfC t.proof := by
  have e : clC t = ([.int .u8 (t.kind : Int)] ++ ([.int .u8 (t.from_ : Int)] ++ ([.int .u64 (t.nonce : Int)] ++ ([.int .u8 (t.side : Int)] ++ ([.int .u8 (t.token : Int)] ++ ([.int .u8 (t.to_ : Int)] ++ (intV t.amount ++ (ittC t.intent ++ (ittC t.other ++ ([.int .u32 (t.batch : Int)])))))))))) ++ (prfC t.proof ++ (([] : List Value))) := by simp only [clC, List.append_assoc, List.nil_append, List.append_nil]
  rw [e]
  exact seg_at (by simp [int4_len h.amount, itt_len h.intent, itt_len h.other, prf_len h.proof]) (prf_len h.proof)
theorem cl_s25 {t : Cl} (h : ClOk t) {x : List (List UInt8)} (hx : PrfOk x) : splice (clC t) 25 (prfC x) = clC { t with proof := x } := by
  have e : clC t = ([.int .u8 (t.kind : Int)] ++ ([.int .u8 (t.from_ : Int)] ++ ([.int .u64 (t.nonce : Int)] ++ ([.int .u8 (t.side : Int)] ++ ([.int .u8 (t.token : Int)] ++ ([.int .u8 (t.to_ : Int)] ++ (intV t.amount ++ (ittC t.intent ++ (ittC t.other ++ ([.int .u32 (t.batch : Int)])))))))))) ++ (prfC t.proof ++ (([] : List Value))) := by simp only [clC, List.append_assoc, List.nil_append, List.append_nil]
  rw [e, splice_at (by simp [int4_len h.amount, itt_len h.intent, itt_len h.other, prf_len h.proof]) (by rw [prf_len h.proof, prf_len hx])]
  simp only [clC, List.append_assoc, List.nil_append, List.append_nil]
theorem clC_inj {x y : Cl} (hx : ClOk x) (hy : ClOk y) (h : clC x = clC y) : x = y := by
  have e0 := (cl_g0 hx).symm.trans ((by rw [h] : (clC x)[0]? = (clC y)[0]?).trans (cl_g0 hy))
  simp only [Option.some.injEq, Value.int.injEq, Value.bool.injEq, true_and] at e0
  have e1 := (cl_g1 hx).symm.trans ((by rw [h] : (clC x)[1]? = (clC y)[1]?).trans (cl_g1 hy))
  simp only [Option.some.injEq, Value.int.injEq, Value.bool.injEq, true_and] at e1
  have e2 := (cl_g2 hx).symm.trans ((by rw [h] : (clC x)[2]? = (clC y)[2]?).trans (cl_g2 hy))
  simp only [Option.some.injEq, Value.int.injEq, Value.bool.injEq, true_and] at e2
  have e3 := (cl_g3 hx).symm.trans ((by rw [h] : (clC x)[3]? = (clC y)[3]?).trans (cl_g3 hy))
  simp only [Option.some.injEq, Value.int.injEq, Value.bool.injEq, true_and] at e3
  have e4 := (cl_g4 hx).symm.trans ((by rw [h] : (clC x)[4]? = (clC y)[4]?).trans (cl_g4 hy))
  simp only [Option.some.injEq, Value.int.injEq, Value.bool.injEq, true_and] at e4
  have e5 := (cl_g5 hx).symm.trans ((by rw [h] : (clC x)[5]? = (clC y)[5]?).trans (cl_g5 hy))
  simp only [Option.some.injEq, Value.int.injEq, Value.bool.injEq, true_and] at e5
  have e60 := (cl_g6 hx).symm.trans ((by rw [h] : ((clC x).drop 6).take 4 = ((clC y).drop 6).take 4).trans (cl_g6 hy))
  have e6 := (fun e => intV_inj e) e60
  have e70 := (cl_g10 hx).symm.trans ((by rw [h] : ((clC x).drop 10).take 7 = ((clC y).drop 10).take 7).trans (cl_g10 hy))
  have e7 := (fun e => ittC_inj e) e70
  have e80 := (cl_g17 hx).symm.trans ((by rw [h] : ((clC x).drop 17).take 7 = ((clC y).drop 17).take 7).trans (cl_g17 hy))
  have e8 := (fun e => ittC_inj e) e80
  have e9 := (cl_g24 hx).symm.trans ((by rw [h] : (clC x)[24]? = (clC y)[24]?).trans (cl_g24 hy))
  simp only [Option.some.injEq, Value.int.injEq, Value.bool.injEq, true_and] at e9
  have e100 := (cl_g25 hx).symm.trans ((by rw [h] : ((clC x).drop 25).take 1024 = ((clC y).drop 25).take 1024).trans (cl_g25 hy))
  have e10 := prfC_inj hx.proof hy.proof e100
  clear h hx hy
  cases x; cases y
  simp only at *
  rw [Cl.mk.injEq]
  exact ⟨by omega, by omega, by omega, by omega, by omega, by omega, e6, e7, e8, by omega, e10⟩
abbrev clK : List CK := [.int .u8] ++ ([.int .u8] ++ ([.int .u64] ++ ([.int .u8] ++ ([.int .u8] ++ ([.int .u8] ++ ((rep 4 [.int .u64]) ++ (ittK ++ (ittK ++ ([.int .u32] ++ (prfK))))))))))
theorem oks_cl {w : World} {t : Cl} (h : ClOk t) : CK.oks w clK (clC t) := by
  unfold clC
  exact (CK.oks_append w _ _ _ _ (oks_one_u8 h.kind) (CK.oks_append w _ _ _ _ (oks_one_u8 h.from_) (CK.oks_append w _ _ _ _ (oks_one_u64 h.nonce) (CK.oks_append w _ _ _ _ (oks_one_u8 h.side) (CK.oks_append w _ _ _ _ (oks_one_u8 h.token) (CK.oks_append w _ _ _ _ (oks_one_u8 h.to_) (CK.oks_append w _ _ _ _ (oks_int4 h.amount) (CK.oks_append w _ _ _ _ (oks_itt h.intent) (CK.oks_append w _ _ _ _ (oks_itt h.other) (CK.oks_append w _ _ _ _ (oks_one_u32 h.batch) (oks_prf h.proof)))))))))))
theorem cl_view {w : World} : ∀ vs, CK.oks w clK vs → ∃ t, vs = clC t ∧ ClOk t := by
  intro vs h
  obtain ⟨⟨x0, ⟨x1, ⟨x2, ⟨x3, ⟨x4, ⟨x5, ⟨x6, ⟨x7, ⟨x8, ⟨x9, x10⟩⟩⟩⟩⟩⟩⟩⟩⟩⟩, e, ⟨p0, ⟨p1, ⟨p2, ⟨p3, ⟨p4, ⟨p5, ⟨p6, ⟨p7, ⟨p8, ⟨p9, p10⟩⟩⟩⟩⟩⟩⟩⟩⟩⟩⟩ := (view_app (view_one (f := fun n : Nat => (.int .u8 (n : Int) : Value)) v_u8) (view_app (view_one (f := fun n : Nat => (.int .u8 (n : Int) : Value)) v_u8) (view_app (view_one (f := fun n : Nat => (.int .u64 (n : Int) : Value)) v_u64) (view_app (view_one (f := fun n : Nat => (.int .u8 (n : Int) : Value)) v_u8) (view_app (view_one (f := fun n : Nat => (.int .u8 (n : Int) : Value)) v_u8) (view_app (view_one (f := fun n : Nat => (.int .u8 (n : Int) : Value)) v_u8) (view_app int4_view (view_app itt_view (view_app itt_view (view_app (view_one (f := fun n : Nat => (.int .u32 (n : Int) : Value)) v_u32) prf_view)))))))))) vs h
  exact ⟨⟨x0, x1, x2, x3, x4, x5, x6, x7, x8, x9, x10⟩, e, ⟨p0, p1, p2, p3, p4, p5, p6, p7, p8, p9, p10⟩⟩
set_option maxRecDepth 100000 in
theorem eqCl (w : World) {a b : Cl} (ha : ClOk a) (hb : ClOk b) : EqT Tryd.prog 43 (clC a) (clC b) (decide (a = b)) :=
  EqT.to (EqT_of (w := w) (n := 8) (ks := clK) (by kernel_rfl) rfl (by kernel_rfl) (by decide) (by kernel_rfl) (by kernel_rfl) (by kernel_rfl) (oks_cl ha) (oks_cl hb)) ⟨(fun e => clC_inj ha hb e), fun e => by rw [e]⟩

abbrev nmL : List (List UInt8) := [[109, 105, 110, 116], [116, 114, 97, 110, 115, 102, 101, 114], [100, 101, 112, 111, 115, 105, 116], [98, 117, 114, 110], [112, 111, 115, 116], [116, 105, 99, 107, 101, 116], [102, 105, 108, 108], [99, 108, 97, 105, 109], [100, 105, 115, 112, 117, 116, 101], [114, 101, 115, 111, 108, 118, 101], [114, 101, 102, 117, 116, 101], [101, 120, 112, 111, 115, 101], [100, 114, 111, 112], [114, 101, 100, 101, 101, 109], [99, 111, 108, 108, 101, 99, 116], [106, 111, 105, 110], [108, 101, 97, 118, 101]]
abbrev sgL : List (List UInt8) := [[116, 97, 110], [115, 116, 97, 110], [116, 97, 110], [116, 97, 110], [], [105, 97], [105, 110], [105], [105, 97], [105, 98, 112], [105, 97], [105, 97, 111, 98, 112], [105], [105, 98, 112], [105], [116, 110], [116, 110]]
abbrev strsV (l : List (List UInt8)) : List Value := l.map str
theorem strsV_get {l : List (List UInt8)} {i : Nat} {s : List UInt8} (h : l[i]? = some s) : (strsV l)[i]? = some (str s) := by rw [List.getElem?_map, h]; rfl
abbrev NmT (w : World) : Prop := Rd w (some ⟨0, 0, none⟩) (strsV nmL)
abbrev SgT (w : World) : Prop := Rd w (some ⟨1, 0, none⟩) (strsV sgL)
/-- The signs, and the name, of a kind. -/
def sgF (z : Int) : List UInt8 := if 0 ≤ z ∧ z < 17 then sgL.getD z.toNat [] else []
def nmF (z : Int) : List UInt8 := if 0 ≤ z ∧ z < 17 then nmL.getD z.toNat [] else []
/-- The first place of a thing in a row. -/
def fX (x : List UInt8) (l : List (List UInt8)) : Nat := (l.takeWhile fun y => !decide (x = y)).length
theorem fX_le (x : List UInt8) (l : List (List UInt8)) : fX x l ≤ l.length := (List.takeWhile_prefix _).length_le
theorem fX_none {x : List UInt8} : ∀ {l : List (List UInt8)}, (∀ y ∈ l, x ≠ y) → fX x l = l.length
  | [], _ => rfl
  | e :: l, h => by
    have h1 := fX_none (x := x) (l := l) (fun t ht => h t (by simp [ht]))
    simp only [fX] at h1
    simp [fX, List.takeWhile_cons, h e (by simp), h1]
theorem fX_hit {x : List UInt8} : ∀ {l : List (List UInt8)} {i : Nat}, l[i]? = some x → (∀ y ∈ l.take i, x ≠ y) → fX x l = i
  | [], i, h, _ => by simp at h
  | e :: l, 0, h, _ => by
    obtain rfl : e = x := by simpa using h
    simp [fX, List.takeWhile_cons]
  | e :: l, i + 1, h, hn => by
    have he : x ≠ e := hn e (by simp)
    have := fX_hit (x := x) (l := l) (i := i) (by simpa using h) (fun s hs => hn s (by simp [hs]))
    simp only [fX] at this
    simp [fX, List.takeWhile_cons, he, this]
theorem fX_get {x : List UInt8} : ∀ {l : List (List UInt8)}, fX x l < l.length → l[fX x l]? = some x
  | [], h => by simp at h
  | e :: l, h => by
    by_cases he : x = e
    · subst he; simp [fX, List.takeWhile_cons]
    · have h0 : fX x (e :: l) = fX x l + 1 := by simp [fX, List.takeWhile_cons, he]
      rw [h0] at h ⊢
      simpa using fX_get (x := x) (l := l) (by simpa using h)
/-- The kind of a name. -/
def kdF (x : List UInt8) : Int × Bool := if fX x nmL < 17 then (((fX x nmL : Nat) : Int), true) else (0, false)
theorem nmF_at {k : Nat} {s : List UInt8} (h : nmL[k]? = some s) : nmF (k : Int) = s := by
  have hk : k < 17 := (List.getElem?_eq_some_iff.1 h).1
  rw [nmF, if_pos (by omega), Int.toNat_natCast, List.getD, h]
  rfl
theorem kd_eq {x : List UInt8} : (kdF x).2 = (decide (x ≠ []) && decide (nmF (kdF x).1 = x)) := by
  unfold kdF
  have hne : ∀ s ∈ nmL, s ≠ [] := by decide
  split
  · next h =>
    have h1 := fX_get (x := x) (l := nmL) h
    have h2 := hne x (List.mem_of_getElem? h1)
    rw [decide_eq_true h2, decide_eq_true (nmF_at h1)]
    rfl
  · next h =>
    show false = _
    by_cases hx : x = []
    · subst hx; rfl
    · have h3 : ¬ nmF 0 = x := fun e => by
        apply h
        rw [← e]
        decide
      rw [decide_eq_false h3]
      simp
theorem kd_zero {x : List UInt8} (h : (kdF x).2 = false) : (kdF x).1 = 0 := by
  unfold kdF at h ⊢
  split at h
  · cases h
  · next h2 => rw [if_neg h2]
theorem nm_ne (z : Int) : decide (nmF z ≠ []) = decide (0 ≤ z ∧ z < 17) := by
  by_cases h : 0 ≤ z ∧ z < 17
  · obtain ⟨k, rfl⟩ := Int.eq_ofNat_of_zero_le h.1
    have hne : ∀ s ∈ nmL, s ≠ [] := by decide
    have hk : k < nmL.length := by show k < 17; omega
    rw [decide_eq_true h, nmF_at (List.getElem?_eq_getElem hk), decide_eq_true (hne _ (List.getElem_mem hk))]
  · rw [decide_eq_false h, nmF, if_neg h]; rfl
theorem kd_back (z : Int) : (kdF (nmF z)).2 = decide (0 ≤ z ∧ z < 17) ∧ ((0 ≤ z ∧ z < 17) → (kdF (nmF z)).1 = z) := by
  by_cases h : 0 ≤ z ∧ z < 17
  · obtain ⟨k, rfl⟩ := Int.eq_ofNat_of_zero_le h.1
    have hall : ∀ k, k < 17 → fX (nmL.getD k []) nmL = k := by decide
    have hk : k < 17 := by omega
    have he : nmF (k : Int) = nmL.getD k [] := by rw [nmF, if_pos h, Int.toNat_natCast]
    rw [he, kdF, hall k hk, if_pos hk]
    exact ⟨(decide_eq_true h).symm, fun _ => rfl⟩
  · have he : nmF z = [] := by rw [nmF, if_neg h]
    rw [he, decide_eq_false h]
    exact ⟨by decide, fun h2 => absurd h2 h⟩
theorem sgF_out {z : Int} (h : ¬ (0 ≤ z ∧ z < 17)) : sgF z = [] := if_neg h
theorem nmF_out {z : Int} (h : ¬ (0 ≤ z ∧ z < 17)) : nmF z = [] := if_neg h
theorem sgF_at {k : Nat} {s : List UInt8} (h : sgL[k]? = some s) : sgF (k : Int) = s := by
  have hk : k < 17 := (List.getElem?_eq_some_iff.1 h).1
  rw [sgF, if_pos (by omega), Int.toNat_natCast, List.getD, h]
  rfl

end Go.Proofs.YtnjbhhedaloghaaDoor
