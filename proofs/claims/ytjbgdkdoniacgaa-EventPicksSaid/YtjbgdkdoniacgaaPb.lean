/- Walks, written by gen.py off the translation's own print: each says what the Go function comes to. -/
import Derived.Test.YtjbgdkdoniacgaaPa
import Derived.Test.YtjbgdkdoniacgaaEq
import Derived.Test.YtjbgdkdoniacgaaIn
set_option linter.unusedVariables false
set_option linter.unusedSimpArgs false
namespace Go.Proofs.Ytjbgdkdoniacgaa
open Go.Sx Go.RowKit
attribute [local irreducible] Ac Ex WL WC WX WP Gives

theorem eqInt (w : World) {a b : List Nat} (ha : Int4 a) (hb : Int4 b) : EqT Try.prog 31 (intV a) (intV b) (decide (a = b)) :=
  EqT.to (EqT_of (w := w) (n := 8) (ks := rep 4 [.int .u64]) (by kernel_rfl) rfl (by kernel_rfl) (by decide) (by kernel_rfl) (by kernel_rfl) (by kernel_rfl)
    (by have := oks_u64 (w := w) a ha.mem; rw [ha.1] at this; exact this) (by have := oks_u64 (w := w) b hb.mem; rw [hb.1] at this; exact this)) ⟨intV_inj, fun e => by rw [e]⟩
theorem eqHash (w : World) {a b : List UInt8} (ha : a.length = 32) (hb : b.length = 32) : EqT Try.prog 24 (bytesV a) (bytesV b) (decide (a = b)) :=
  EqT.to (EqT_of (w := w) (n := 8) (ks := rep 32 [.int .u8]) (by kernel_rfl) rfl (by kernel_rfl) (by decide) (by kernel_rfl) (by kernel_rfl) (by kernel_rfl)
    (by have := oks_u8 (w := w) a; rw [ha] at this; exact this) (by have := oks_u8 (w := w) b; rw [hb] at this; exact this)) ⟨bytesV_inj, fun e => by rw [e]⟩

theorem int4_0 : Int4 [0, 0, 0, 0] := int4z
theorem oks_u1 {w : World} {k : IntKind} {ks : List CK} {x : Nat} {vs : List Value} (h : (Lit.int k (x : Int)).wf = true) (hr : CK.oks w ks vs) : CK.oks w (.int k :: ks) (.int k (x : Int) :: vs) := ⟨_, _, rfl, ⟨_, rfl, h⟩, hr⟩
theorem wf_u32 {x : Nat} (h : x < 4294967296) : (Lit.int .u32 (x : Int)).wf = true := by simp [Lit.wf, IntKind.min, IntKind.max, IntKind.signed, IntKind.bits]; omega
theorem wf_u8 {x : Nat} (h : x < 256) : (Lit.int .u8 (x : Int)).wf = true := by simp [Lit.wf, IntKind.min, IntKind.max, IntKind.signed, IntKind.bits]; omega
theorem wf_u64 {x : Nat} (h : x < 18446744073709551616) : (Lit.int .u64 (x : Int)).wf = true := by simp [Lit.wf, IntKind.min, IntKind.max, IntKind.signed, IntKind.bits]; omega
theorem oks_int4 {w : World} {a : List Nat} (h : Int4 a) : CK.oks w (rep 4 [.int .u64]) (intV a) := by have := oks_u64 (w := w) a h.mem; rw [h.1] at this; exact this
theorem oks_splitN {w : World} {ks ls : List CK} {vs : List Value} (n : Nat) (h : CK.oks w (ks ++ ls) vs) (hn : ks.length = n) : CK.oks w ks (vs.take n) ∧ CK.oks w ls (vs.drop n) := by
  subst hn
  exact oks_split ks ls vs h
theorem int4_of {a : List Nat} (h : a.length = 4) (hb : ∀ x ∈ a, x < 18446744073709551616) : Int4 a := ⟨h, fun i => by
  rw [List.getD]
  cases hi : a[i]? with
  | none => simp
  | some x => exact hb x (List.mem_of_getElem? hi)⟩

/-- What happened. -/
structure Ev where
  k : Nat
  b : Nat
  id : List UInt8
  sd : Nat
  tk : Nat
  fr : Nat
  to : Nat
  am : List Nat
  fe : List Nat
  bt : Nat
instance : DecidableEq Ev := fun x y => decidable_of_iff (x.k = y.k ∧ x.b = y.b ∧ x.id = y.id ∧ x.sd = y.sd ∧ x.tk = y.tk ∧ x.fr = y.fr ∧ x.to = y.to ∧ x.am = y.am ∧ x.fe = y.fe ∧ x.bt = y.bt) (by cases x; cases y; simp)
def evC (t : Ev) : List Value := [.int .u8 (t.k : Int), .int .u64 (t.b : Int)] ++ bytesV t.id ++ [.int .u8 (t.sd : Int), .int .u8 (t.tk : Int), .int .u8 (t.fr : Int), .int .u8 (t.to : Int)] ++ intV t.am ++ intV t.fe ++ [.int .u32 (t.bt : Int)]
structure EvOk (t : Ev) : Prop where
  k : t.k < 256
  b : t.b < 18446744073709551616
  id : t.id.length = 32
  sd : t.sd < 256
  tk : t.tk < 256
  fr : t.fr < 256
  to : t.to < 256
  am : Int4 t.am
  fe : Int4 t.fe
  bt : t.bt < 4294967296
def ev0 : Ev := ⟨0, 0, List.replicate 32 0, 0, 0, 0, 0, [0, 0, 0, 0], [0, 0, 0, 0], 0⟩
theorem ev0_ok : EvOk ev0 := ⟨by decide, by decide, by simp [ev0], by decide, by decide, by decide, by decide, int4_0, int4_0, by decide⟩
def evB (t : Ev) : List UInt8 := be 1 t.k ++ (be 8 t.b ++ (t.id ++ (be 1 t.sd ++ (be 1 t.tk ++ (be 1 t.fr ++ (be 1 t.to ++ (intB t.am ++ (intB t.fe ++ be 4 t.bt))))))))
theorem evB_len {t : Ev} (h : EvOk t) : (evB t).length = 113 := by simp [evB, h.id]
def mayE (t : Ev) : Prop := t.k ≤ 18 ∧ t.b ≤ 1099511627776 ∧ t.sd ≤ 1 ∧ t.tk ≤ 3 ∧ t.fr ≤ 15 ∧ t.to ≤ 15
instance (t : Ev) : Decidable (mayE t) := by unfold mayE; infer_instance
theorem ev_len {t : Ev} (h : EvOk t) : (evC t).length = 47 := by simp [evC, h.id, h.am.1, h.fe.1]
theorem ev_one {t : Ev} : ∀ u ∈ evC t, u.oneCell' = true := by
  intro u hu
  simp only [evC, List.mem_append, List.mem_cons, List.not_mem_nil, or_false] at hu
  rcases hu with ((((( rfl | rfl) | hu) | (rfl | rfl | rfl | rfl)) | hu) | hu) | rfl
  · rfl
  · rfl
  · exact bytesV_one _ u hu
  · rfl
  · rfl
  · rfl
  · rfl
  · exact intV_one _ u hu
  · exact intV_one _ u hu
  · rfl
theorem ev_2 {t : Ev} (h : EvOk t) : ((evC t).drop 2).take 32 = bytesV t.id := by simp [evC, h.id, List.drop_append, List.take_append, List.take_of_length_le]
theorem ev_34 {t : Ev} (h : EvOk t) : (evC t)[34]? = some (.int .u8 (t.sd : Int)) := by simp [evC, h.id, List.getElem?_append]
theorem ev_35 {t : Ev} (h : EvOk t) : (evC t)[35]? = some (.int .u8 (t.tk : Int)) := by simp [evC, h.id, List.getElem?_append]
theorem ev_36 {t : Ev} (h : EvOk t) : (evC t)[36]? = some (.int .u8 (t.fr : Int)) := by simp [evC, h.id, List.getElem?_append]
theorem ev_37 {t : Ev} (h : EvOk t) : (evC t)[37]? = some (.int .u8 (t.to : Int)) := by simp [evC, h.id, List.getElem?_append]
theorem ev_38 {t : Ev} (h : EvOk t) : ((evC t).drop 38).take 4 = intV t.am := by simp [evC, h.id, h.am.1, h.fe.1, List.drop_append, List.take_append, List.take_of_length_le, List.drop_eq_nil_of_le]
theorem ev_42 {t : Ev} (h : EvOk t) : ((evC t).drop 42).take 4 = intV t.fe := by simp [evC, h.id, h.am.1, h.fe.1, List.drop_append, List.take_append, List.take_of_length_le, List.drop_eq_nil_of_le]
theorem ev_46 {t : Ev} (h : EvOk t) : (evC t)[46]? = some (.int .u32 (t.bt : Int)) := by simp [evC, h.id, h.am.1, h.fe.1, List.getElem?_append]
theorem evC_inj {x y : Ev} (hx : EvOk x) (hy : EvOk y) (h : evC x = evC y) : x = y := by
  have e0 : (evC x)[0]? = (evC y)[0]? := by rw [h]
  have e1 : (evC x)[1]? = (evC y)[1]? := by rw [h]
  have e2 := (ev_2 hx).symm.trans ((by rw [h] : ((evC x).drop 2).take 32 = ((evC y).drop 2).take 32).trans (ev_2 hy))
  have e3 := (ev_34 hx).symm.trans ((by rw [h] : (evC x)[34]? = (evC y)[34]?).trans (ev_34 hy))
  have e4 := (ev_35 hx).symm.trans ((by rw [h] : (evC x)[35]? = (evC y)[35]?).trans (ev_35 hy))
  have e5 := (ev_36 hx).symm.trans ((by rw [h] : (evC x)[36]? = (evC y)[36]?).trans (ev_36 hy))
  have e6 := (ev_37 hx).symm.trans ((by rw [h] : (evC x)[37]? = (evC y)[37]?).trans (ev_37 hy))
  have e7 := (ev_38 hx).symm.trans ((by rw [h] : ((evC x).drop 38).take 4 = ((evC y).drop 38).take 4).trans (ev_38 hy))
  have e8 := (ev_42 hx).symm.trans ((by rw [h] : ((evC x).drop 42).take 4 = ((evC y).drop 42).take 4).trans (ev_42 hy))
  have e9 := (ev_46 hx).symm.trans ((by rw [h] : (evC x)[46]? = (evC y)[46]?).trans (ev_46 hy))
  simp only [evC, List.cons_append, List.getElem?_cons_zero, List.getElem?_cons_succ, Option.some.injEq, Value.int.injEq, true_and] at e0 e1
  simp only [Option.some.injEq, Value.int.injEq, true_and] at e3 e4 e5 e6 e9
  have e2' := bytesV_inj e2
  have e7' := intV_inj e7
  have e8' := intV_inj e8
  cases x; cases y
  simp only at *
  rw [Ev.mk.injEq]
  exact ⟨by omega, by omega, e2', by omega, by omega, by omega, by omega, e7', e8', by omega⟩
abbrev evK : List CK := .int .u8 :: .int .u64 :: (rep 32 [.int .u8] ++ (.int .u8 :: .int .u8 :: .int .u8 :: .int .u8 :: (rep 4 [.int .u64] ++ (rep 4 [.int .u64] ++ [.int .u32]))))
theorem oks_u8s' {w : World} {l : List UInt8} {n : Nat} (h : l.length = n) : CK.oks w (rep n [.int .u8]) (bytesV l) := by subst h; exact oks_u8 l
theorem oks_nil (w : World) : CK.oks w [] [] := by simp only [CK.oks]
theorem oks_ev {w : World} {t : Ev} (h : EvOk t) : CK.oks w evK (evC t) := by
  have := oks_u1 (w := w) (wf_u8 h.k) (oks_u1 (wf_u64 h.b) (CK.oks_append w _ _ _ _ (oks_u8s' h.id) (oks_u1 (wf_u8 h.sd) (oks_u1 (wf_u8 h.tk) (oks_u1 (wf_u8 h.fr) (oks_u1 (wf_u8 h.to) (CK.oks_append w _ _ _ _ (oks_int4 h.am) (CK.oks_append w _ _ _ _ (oks_int4 h.fe) (oks_u1 (wf_u32 h.bt) (oks_nil w)))))))))) 
  have e : evC t = .int .u8 (t.k : Int) :: .int .u64 (t.b : Int) :: (bytesV t.id ++ (.int .u8 (t.sd : Int) :: .int .u8 (t.tk : Int) :: .int .u8 (t.fr : Int) :: .int .u8 (t.to : Int) :: (intV t.am ++ (intV t.fe ++ [.int .u32 (t.bt : Int)])))) := by simp [evC]
  rw [e]
  exact this
theorem eqEv (w : World) {x y : Ev} (hx : EvOk x) (hy : EvOk y) : EqT Try.prog 34 (evC x) (evC y) (decide (x = y)) :=
  EqT.to (EqT_of (w := w) (n := 8) (ks := evK) (by kernel_rfl) rfl (by kernel_rfl) (by decide) (by kernel_rfl) (by kernel_rfl) (by kernel_rfl) (oks_ev hx) (oks_ev hy)) ⟨evC_inj hx hy, fun e => by rw [e]⟩
/-- A slice of events that can be read. -/
structure RdE (w : World) (A : Option Addr) (es : List Ev) : Prop where
  row : Rd w A (es.flatMap evC)
  ok : ∀ t ∈ es, EvOk t
theorem RdE.keep {w w' : World} {A : Option Addr} {es : List Ev} (h : RdE w A es) (k : Keep nof w w') : RdE w' A es := ⟨h.row.keep0 k, h.ok⟩
theorem RdE.plain {w : World} {A : Option Addr} {es : List Ev} (h : RdE w A es) {i : Nat} {p : Ev} (hp : es[i]? = some p) : ∃ b o, A = some ⟨b, o, none⟩ :=
  h.row.flat_plain (List.mem_of_getElem? hp) (by rw [ev_len (h.ok p (List.mem_of_getElem? hp))]; omega)
theorem evs_len {es : List Ev} (h : ∀ t ∈ es, EvOk t) : (es.flatMap evC).length = es.length * 47 := by
  induction es with
  | nil => rfl
  | cons a r ih =>
    have h1 := ev_len (h a (by simp))
    have h2 := ih fun t ht => h t (by simp [ht])
    simp only [List.flatMap_cons, List.length_append, h1, h2, List.length_cons]
    omega
theorem ev_view {w : World} {vs : List Value} (h : CK.oks w evK vs) : ∃ t, vs = evC t ∧ EvOk t := by
  obtain ⟨v0, r0, rfl, h0, v1, r1, rfl, h1, h2⟩ := h
  obtain ⟨h3, h4⟩ := oks_splitN 32 h2 rfl
  obtain ⟨v2, r2, e4, h5, v3, r3, rfl, h6, v4, r4, rfl, h7, v5, r5, rfl, h8, h9⟩ := h4
  obtain ⟨h10, h11⟩ := oks_splitN 4 h9 rfl
  obtain ⟨h12, h13⟩ := oks_splitN 4 h11 rfl
  obtain ⟨v6, r6, e13, h14, h15⟩ := h13
  simp only [CK.oks] at h15
  subst h15
  obtain ⟨k, hk, rfl⟩ := ok_u8n h0
  obtain ⟨b, hb, rfl⟩ := ok_u64 h1
  obtain ⟨l, hl, e3⟩ := oks_u8s 32 _ h3
  obtain ⟨sd, hsd, rfl⟩ := ok_u8n h5
  obtain ⟨tk, htk, rfl⟩ := ok_u8n h6
  obtain ⟨fr, hfr, rfl⟩ := ok_u8n h7
  obtain ⟨to, hto, rfl⟩ := ok_u8n h8
  obtain ⟨a, ha, hab, e10⟩ := oks_u64s 4 _ h10
  obtain ⟨f, hf, hfb, e12⟩ := oks_u64s 4 _ h12
  obtain ⟨bt, hbt, rfl⟩ := ok_u32 h14
  refine ⟨⟨k, b, l, sd, tk, fr, to, a, f, bt⟩, ?_, hk, hb, hl, hsd, htk, hfr, hto, int4_of ha hab, int4_of hf hfb, hbt⟩
  rw [← List.take_append_drop 32 r1, e3, e4, ← List.take_append_drop 4 r5, e10, ← List.take_append_drop 4 (r5.drop 4), e12, e13]
  simp [evC]
theorem ok_evs {w : World} {v : Value} (h : CK.ok w (.sl evK) v) : ∃ A c, ∃ es : List Ev, v = .slice A es.length c ∧ es.length ≤ c ∧ c ≤ maxLen ∧ RdE w A es := by
  obtain ⟨A, c, es, h1, h2, h3, h4, h5⟩ := sl_view h evC _ (fun vs hv => ev_view hv)
  exact ⟨A, c, es, h1, h2, h3, h4, h5⟩

end Go.Proofs.Ytjbgdkdoniacgaa
