/- Walks, written by gen.py off the translation's own print: each says what the Go function comes to. -/
import Derived.Test.YtchmjpdkonfifaaDoorGb
import Derived.Test.YtchmjpdkonfifaaDoorIn
set_option linter.unusedVariables false
set_option linter.unusedSimpArgs false
namespace Go.Proofs.YtchmjpdkonfifaaDoor
open Go.Sx Go.RowKit
attribute [local irreducible] Ac Ex WL WC WX WP Gives sha

theorem eqInt (w : World) {a b : List Nat} (ha : Int4 a) (hb : Int4 b) : EqT Tryd.prog 48 (intV a) (intV b) (decide (a = b)) :=
  EqT.to (EqT_of (w := w) (n := 8) (ks := rep 4 [.int .u64]) (by kernel_rfl) rfl (by kernel_rfl) (by decide) (by kernel_rfl) (by kernel_rfl) (by kernel_rfl)
    (by have := oks_u64 (w := w) a ha.mem; rw [ha.1] at this; exact this) (by have := oks_u64 (w := w) b hb.mem; rw [hb.1] at this; exact this)) ⟨intV_inj, fun e => by rw [e]⟩

theorem int4_0 : Int4 [0, 0, 0, 0] := int4z
/-- An intent. -/
structure Itt where
  ix : Nat
  tk : Nat
  ow : Nat
  am : List Nat
instance : DecidableEq Itt := fun a b => decidable_of_iff (a.ix = b.ix ∧ a.tk = b.tk ∧ a.ow = b.ow ∧ a.am = b.am) (by cases a; cases b; simp)
def ittC (t : Itt) : List Value := [.int .u32 (t.ix : Int), .int .u8 (t.tk : Int), .int .u8 (t.ow : Int)] ++ intV t.am
structure IttOk (t : Itt) : Prop where
  ix : t.ix < 4294967296
  tk : t.tk < 256
  ow : t.ow < 256
  am : Int4 t.am
def itt0 : Itt := ⟨0, 0, 0, [0, 0, 0, 0]⟩
theorem itt0_ok : IttOk itt0 := ⟨by decide, by decide, by decide, int4_0⟩
def ittB (t : Itt) : List UInt8 := be 4 t.ix ++ (be 1 t.tk ++ (be 1 t.ow ++ intB t.am))
@[simp] theorem ittB_len (t : Itt) : (ittB t).length = 38 := by simp [ittB]
def mayI (t : Itt) : Prop := t.tk ≤ 3 ∧ t.ow ≤ 15 ∧ t.am ≠ [0, 0, 0, 0]
instance (t : Itt) : Decidable (mayI t) := by unfold mayI; infer_instance
theorem itt_len {t : Itt} (h : IttOk t) : (ittC t).length = 7 := by simp [ittC, h.am.1]
theorem itt_3 {t : Itt} (h : IttOk t) : ((ittC t).drop 3).take 4 = intV t.am := by simp [ittC, h.am.1, List.take_of_length_le]
theorem itt_one {t : Itt} : ∀ u ∈ ittC t, u.oneCell' = true := by
  intro u hu
  simp only [ittC, List.mem_append, List.mem_cons, List.not_mem_nil, or_false] at hu
  rcases hu with (rfl | rfl | rfl) | hu
  · rfl
  · rfl
  · rfl
  · exact intV_one _ u hu
theorem ittC_inj {a b : Itt} (h : ittC a = ittC b) : a = b := by
  simp only [ittC, List.cons_append, List.nil_append, List.cons.injEq, Value.int.injEq, true_and] at h
  obtain ⟨h1, h2, h3, h4⟩ := h
  cases a; cases b
  simp only at h1 h2 h3 h4
  rw [Itt.mk.injEq]
  exact ⟨by omega, by omega, by omega, intV_inj h4⟩
theorem oks_u1 {w : World} {k : IntKind} {ks : List CK} {x : Nat} {vs : List Value} (h : (Lit.int k (x : Int)).wf = true) (hr : CK.oks w ks vs) : CK.oks w (.int k :: ks) (.int k (x : Int) :: vs) := ⟨_, _, rfl, ⟨_, rfl, h⟩, hr⟩
theorem wf_u32 {x : Nat} (h : x < 4294967296) : (Lit.int .u32 (x : Int)).wf = true := by simp [Lit.wf, IntKind.min, IntKind.max, IntKind.signed, IntKind.bits]; omega
theorem wf_u8 {x : Nat} (h : x < 256) : (Lit.int .u8 (x : Int)).wf = true := by simp [Lit.wf, IntKind.min, IntKind.max, IntKind.signed, IntKind.bits]; omega
theorem wf_u64 {x : Nat} (h : x < 18446744073709551616) : (Lit.int .u64 (x : Int)).wf = true := by simp [Lit.wf, IntKind.min, IntKind.max, IntKind.signed, IntKind.bits]; omega
theorem oks_int4 {w : World} {a : List Nat} (h : Int4 a) : CK.oks w (rep 4 [.int .u64]) (intV a) := by have := oks_u64 (w := w) a h.mem; rw [h.1] at this; exact this
abbrev ittK : List CK := .int .u32 :: .int .u8 :: .int .u8 :: rep 4 [.int .u64]
theorem oks_itt {w : World} {t : Itt} (h : IttOk t) : CK.oks w ittK (ittC t) := oks_u1 (wf_u32 h.ix) (oks_u1 (wf_u8 h.tk) (oks_u1 (wf_u8 h.ow) (oks_int4 h.am)))
theorem eqItt (w : World) {a b : Itt} (ha : IttOk a) (hb : IttOk b) : EqT Tryd.prog 50 (ittC a) (ittC b) (decide (a = b)) :=
  EqT.to (EqT_of (w := w) (n := 8) (ks := ittK) (by kernel_rfl) rfl (by kernel_rfl) (by decide) (by kernel_rfl) (by kernel_rfl) (by kernel_rfl) (oks_itt ha) (oks_itt hb)) ⟨ittC_inj, fun e => by rw [e]⟩
theorem bldItt {ix tk ow : Nat} {am : List Nat} (h : am.length = 4) :
    okS (fun i => ([(0, 1), (1, 1), (2, 1), (3, 4)] : List (Nat × Nat))[i]?) ([.int .u32 0] ++ [.int .u8 0] ++ [.int .u8 0] ++ (List.replicate 4 (.int .u64 0))) [(0, .int .u32 (ix : Int)), (1, .int .u8 (tk : Int)), (2, .int .u8 (ow : Int)), (3, .agg (intV am).toArray)]
      [[.int .u32 (ix : Int)], [.int .u8 (tk : Int)], [.int .u8 (ow : Int)], intV am] (ittC ⟨ix, tk, ow, am⟩) :=
  ⟨0, 1, rfl, rfl, rfl, by simp, 1, 1, rfl, rfl, rfl, by simp [splice], 2, 1, rfl, rfl, rfl, by simp [splice], 3, 4, rfl, rfl, by simp [h], by simp [splice], by show splice _ _ _ = _; simp [splice, ittC, h]⟩

theorem itt_view {w : World} : ∀ vs, CK.oks w ittK vs → ∃ t, vs = ittC t ∧ IttOk t := by
  intro vs h
  obtain ⟨v0, r0, rfl, h0, v1, r1, rfl, h1, v2, r2, rfl, h2, h3⟩ := h
  obtain ⟨x0, p0, rfl⟩ := ok_u32 h0
  obtain ⟨x1, p1, rfl⟩ := ok_u8n h1
  obtain ⟨x2, p2, rfl⟩ := ok_u8n h2
  obtain ⟨a, rfl, p3⟩ := int4_view _ h3
  exact ⟨⟨x0, x1, x2, a⟩, rfl, ⟨p0, p1, p2, p3⟩⟩

theorem itt_g0 {t : Itt} (h : IttOk t) : (ittC t)[0]? = some (.int .u32 (t.ix : Int)) := rfl
theorem itt_g1 {t : Itt} (h : IttOk t) : (ittC t)[1]? = some (.int .u8 (t.tk : Int)) := rfl
theorem itt_g2 {t : Itt} (h : IttOk t) : (ittC t)[2]? = some (.int .u8 (t.ow : Int)) := rfl
theorem itt_g3 {t : Itt} (h : IttOk t) : ((ittC t).drop 3).take 4 = intV t.am := itt_3 h
def iID (x : Itt) : List UInt8 := dOf 3 [ittB x]
def iLeaf (x : Itt) : List UInt8 := dLeaf (ittB x)
theorem iID_len (x : Itt) : H32 (iID x) := sha_length _
theorem iLeaf_len (x : Itt) : H32 (iLeaf x) := sha_length _

/- sponsion/intent.Put -/
theorem iPut_ok (w : World) (g : Nat) (v : Value) (l : List UInt8) (t : Itt) (h : (wrR g v l).sat w) (ht : IttOk t) (hb : l.length ≤ 17592186044416) :
    Gives Tryd.prog 86 #[.pointer (some ⟨g, 0, none⟩), .agg (ittC t).toArray] w fun _ w1 => ∃ v1, Turn w w1 (wrR g v l) (wrR g v1 (l ++ ittB t)) := by
  have M0 := Mem.begin h
  have htx := ht.ix
  have htt := ht.tk
  have hto := ht.ow
  have hta := ht.am
  refine Gives.enter (n := 17) Tryd.func86 rfl Tryd.ntmps86 rfl (env := [(0, .pointer (some ⟨g, 0, none⟩)), (1, .agg (ittC t).toArray)]) rfl ?_
  refine WC.seq ?_
  refine WC.region ?_
  refine WL.ac rfl rfl rfl (Ac.box M0 (l := ittC t) rfl rfl) ?_; rintro v1 w1 ⟨gi, rfl, hg1, K1, M1⟩
  refine WL.nil ?_
  refine WX.next (?_)
  have hne : gi ∉ (wrR g v l).fp := M1.apart (i := 0) (j := 1) rfl rfl (by decide) _ (by simp [blk])
  refine WC.draw (Keep (· ∈ (wrR g v l).fp) w1.drew) [] (.one 0 0 (.one 1 0 (.one 4 0 (.one 7 0 (.one 10 0 (.one 2 1 (.one 5 1 (.one 8 1 (.one 11 1 (.one 3 2 (.one 6 2 (.one 9 2 (.one 12 2 .nil))))))))))))) mixed (by kernel_rfl) (by kernel_rfl) (by kernel_rfl) HQ.body ?_
  obtain ⟨w2, hw2⟩ : ∃ v, v = w1.drew := ⟨_, rfl⟩
  have D2 : Keep nof w1 w2 := by rw [hw2]; exact Keep.drew _ _
  have M2 := M1.step D2
  rw [← hw2]; clear hw2
  refine WP.p rfl rfl rfl rfl (fun _ => Ex.mv rfl) ?_
  refine WP.p rfl rfl rfl rfl (fun _ => Ex.fa fl50_0 rfl) ?_
  refine WP.p rfl rfl rfl rfl (fun _ => Ex.fa fl50_1 rfl) ?_
  refine WP.p rfl rfl rfl rfl (fun _ => Ex.fa fl50_2 rfl) ?_
  refine WP.p rfl rfl rfl rfl (fun _ => Ex.fa fl50_3 rfl) ?_
  refine WP.q (Keep.refl _ _) rfl rfl rfl rfl (fun w' hS => Ex.load ty46 rfl (hS.cell (M2.cell (i := 0) (v := .int .u32 (t.ix : Int)) rfl rfl) hne)) ?_
  refine WP.q (Keep.refl _ _) rfl rfl rfl rfl (fun w' hS => Ex.load ty5 rfl (hS.cell (M2.cell (i := 0) (v := .int .u8 (t.tk : Int)) rfl rfl) hne)) ?_
  refine WP.q (Keep.refl _ _) rfl rfl rfl rfl (fun w' hS => Ex.load ty5 rfl (hS.cell (M2.cell (i := 0) (v := .int .u8 (t.ow : Int)) rfl rfl) hne)) ?_
  refine WP.q (Keep.refl _ _) rfl rfl rfl rfl (fun w' hS => Ex.loadA ty48 rfl (l := intV t.am) (by simpa using hta.1) ((M2.rdt (i := 0) rfl (itt_3 ht)).keep hS (fun a ha => by cases ha; exact hne))) ?_
  refine WP.a rfl rfl rfl rfl (Ac.call rfl Tryd.func102 nm102 rfl (wU32_ok w2 _ _ _ _ (M2.get (i := 1) rfl) (by first | omega | decide) (by first | (simp; done) | (simp; omega) | omega))) ?_; rintro v12 w12 ⟨rfl, v12, T12⟩; refine .inr ⟨fun _ => T12.keep, ?_⟩
  have M12 := M2.turned (i := 1) rfl T12
  try dsimp only [List.set] at M12
  refine WP.a rfl rfl rfl rfl (Ac.call rfl Tryd.func103 nm103 rfl (wU8_ok w12 _ _ _ _ (M12.get (i := 1) rfl) (by first | omega | decide) (by first | (simp; done) | (simp; omega) | omega))) ?_; rintro v13 w13 ⟨rfl, v13, T13⟩; refine .inr ⟨fun _ => (T12.trans T13).keep, ?_⟩
  have M13 := M12.turned (i := 1) rfl T13
  try dsimp only [List.set] at M13
  refine WP.a rfl rfl rfl rfl (Ac.call rfl Tryd.func103 nm103 rfl (wU8_ok w13 _ _ _ _ (M13.get (i := 1) rfl) (by first | omega | decide) (by first | (simp; done) | (simp; omega) | omega))) ?_; rintro v14 w14 ⟨rfl, v14, T14⟩; refine .inr ⟨fun _ => ((T12.trans T13).trans T14).keep, ?_⟩
  have M14 := M13.turned (i := 1) rfl T14
  try dsimp only [List.set] at M14
  refine WP.a rfl rfl rfl rfl (Ac.call rfl Tryd.func104 nm104 rfl (wInt_ok w14 _ _ _ _ (M14.get (i := 1) rfl) ‹_› (by first | (simp; done) | (simp; omega) | omega))) ?_; rintro v15 w15 ⟨rfl, v15, T15⟩; refine .inr ⟨fun _ => (((T12.trans T13).trans T14).trans T15).keep, ?_⟩
  have M15 := M14.turned (i := 1) rfl T15
  try dsimp only [List.set] at M15
  refine WP.nil ?_
  refine WX.end0 rfl ?_
  have Me := (Mem.sub M15 (.cons _ (.refl _))).toTurn
  exact ⟨_, by simpa only [ittB, List.append_assoc] using Me⟩

/- sponsion/intent.Bytes -/
theorem iBytes_ok (w : World) (t : Itt) (ht : IttOk t) :
    Gives Tryd.prog 57 #[.agg (ittC t).toArray] w fun u w1 => New w w1 (row u 5 1 (ittB t).length (bytesV (ittB t))) := by
  have M0 := Mem.start w nof
  refine Gives.enter (n := 11) Tryd.func57 rfl Tryd.ntmps57 rfl (env := [(0, .agg (ittC t).toArray)]) rfl ?_
  refine WC.seq ?_
  refine WC.region ?_
  refine WL.ac rfl rfl rfl (Ac.box M0 (l := ittC t) rfl rfl) ?_; rintro v1 w1 ⟨gi, rfl, hg1, K1, M1⟩
  refine WL.ex rfl rfl rfl (Ex.asg rfl) ?_
  refine WL.nil ?_
  refine WX.next (?_)
  refine WC.seq ?_
  refine WC.region ?_
  refine WL.ex rfl rfl rfl (Ex.bld bd142 (parts := []) rfl rfl rfl rfl) ?_
  refine WL.ac rfl rfl rfl (Ac.box (M1.free (r := row (.slice none 0 0) 5 1 ([] : List UInt8).length (bytesV [])) (row_nil _ _ _) rfl) rfl rfl) ?_; rintro v4 w4 ⟨gw, rfl, hg4, K4, M4⟩
  replace M4 := M4.close1 (fun v => [v])
  refine WL.ex rfl rfl rfl (Ex.asg rfl) ?_
  refine WL.nil ?_
  refine WX.next (?_)
  refine WC.seq ?_
  refine WC.region ?_
  refine WL.ex rfl rfl rfl (Ex.mv rfl) ?_
  refine WL.ex rfl rfl rfl (Ex.loadA ty50 rfl (l := ittC t) (itt_len ht) (M4.rdw (i := 1) rfl)) ?_
  refine WL.ac rfl rfl rfl (Ac.call rfl Tryd.func86 nm86 rfl (iPut_ok w4 _ _ [] _ (M4.get (i := 0) rfl) ht (by simp))) ?_; rintro v8 w8 ⟨v8, T8⟩
  have M8 := M4.turned (i := 0) rfl T8
  try dsimp only [List.set] at M8
  rw [List.nil_append] at M8
  refine WL.nil ?_
  refine WX.next (?_)
  refine WC.seq ?_
  refine WC.region ?_
  refine WL.ex rfl rfl rfl (Ex.mv rfl) ?_
  refine WL.ac rfl rfl rfl (Ac.call rfl Tryd.func87 nm87 rfl (wBytes_ok w8 _ _ _ (M8.get (i := 0) rfl) (by first | (simp; done) | (simp; omega) | omega))) ?_; rintro v10 w10 N10
  have M10 := M8.new N10
  obtain ⟨A10, c10, rfl⟩ := own_slice (M10.get (i := 0) rfl)
  refine WL.ex rfl rfl rfl (Ex.asg rfl) ?_
  refine WL.nil ?_
  refine WX.next (?_)
  refine WC.ret ?_
  refine WX.ret1 rfl rfl ?_
  exact M10.toNew

/- sponsion/sponsionref07.May -/
theorem may7_ok (w : World) (t : Itt) (ht : IttOk t) :
    Gives Tryd.prog 43 #[.agg (ittC t).toArray] w fun u w1 => u = .bool (decide (mayI t)) ∧ Keep nof w w1 := by
  obtain ⟨ix, tk, ow, am⟩ := t
  have hta := ht.am
  have htt := ht.tk
  have hto := ht.ow
  dsimp only at hta htt hto
  obtain ⟨p, q, r, s, rfl⟩ := len4 hta.1
  have M0 := Mem.start w nof
  refine Gives.enter (n := 35) Tryd.func43 rfl Tryd.ntmps43 rfl (env := [(0, .agg (ittC ⟨ix, tk, ow, [p, q, r, s]⟩).toArray)]) rfl ?_
  refine WC.seq ?_
  refine WC.region ?_
  refine WL.ac rfl rfl rfl (Ac.box M0 (l := ittC ⟨ix, tk, ow, [p, q, r, s]⟩) rfl rfl) ?_; rintro v1 w1 ⟨gi, rfl, hg1, K1, M1⟩
  refine WL.ex rfl rfl rfl (Ex.asg rfl) ?_
  refine WL.nil ?_
  refine WX.next (?_)
  refine WC.seq ?_
  refine WC.region ?_
  refine WL.ex rfl rfl rfl (Ex.fa fl50_1 rfl) ?_
  refine WL.ex rfl rfl rfl (Ex.load ty5 rfl (M1.cell (i := 0) rfl rfl)) ?_
  refine WL.ex rfl rfl rfl (Ex.leq rfl rfl) ?_
  by_cases h1 : (tk : Int) ≤ 3
  · rw [decide_eq_true h1]
    refine WL.ex rfl rfl rfl (Ex.mv rfl) ?_
    refine WL.yes rfl rfl rfl rfl ?_
    refine WL.ex rfl rfl rfl (Ex.fa fl50_2 rfl) ?_
    refine WL.yes rfl rfl rfl rfl ?_
    refine WL.ex rfl rfl rfl (Ex.load ty5 rfl (M1.cell (i := 0) rfl rfl)) ?_
    refine WL.yes rfl rfl rfl rfl ?_
    refine WL.ex rfl rfl rfl (Ex.leq rfl rfl) ?_
    by_cases h2 : (ow : Int) ≤ 15
    · rw [decide_eq_true h2]
      refine WL.ex rfl rfl rfl (Ex.pickT rfl rfl) ?_
      refine WL.ex rfl rfl rfl (Ex.mv rfl) ?_
      refine WL.yes rfl rfl rfl rfl ?_
      refine WL.ex rfl rfl rfl (Ex.fa fl50_3 rfl) ?_
      refine WL.yes rfl rfl rfl rfl ?_
      refine WL.ex rfl rfl rfl (Ex.iaA Tryd.underlying48 sz23 rfl rfl ⟨by omega, by omega⟩) ?_
      refine WL.yes rfl rfl rfl rfl ?_
      refine WL.ex rfl rfl rfl (Ex.load ty23 rfl (M1.cell (i := 0) rfl rfl)) ?_
      refine WL.yes rfl rfl rfl rfl ?_
      refine WL.ex rfl rfl rfl (Ex.gtr rfl rfl) ?_
      by_cases h3 : (0 : Int) < p
      · rw [decide_eq_true h3]
        refine WL.yes rfl rfl rfl rfl ?_
        refine WL.ex rfl rfl rfl (Ex.mv rfl) ?_
        refine WL.no rfl rfl rfl rfl rfl rfl ?_
        refine WL.no rfl rfl rfl rfl rfl rfl ?_
        refine WL.no rfl rfl rfl rfl rfl rfl ?_
        refine WL.no rfl rfl rfl rfl rfl rfl ?_
        refine WL.yes rfl rfl rfl rfl ?_
        refine WL.ex rfl rfl rfl (Ex.pickT rfl rfl) ?_
        refine WL.yes rfl rfl rfl rfl ?_
        refine WL.ex rfl rfl rfl (Ex.mv rfl) ?_
        refine WL.no rfl rfl rfl rfl rfl rfl ?_
        refine WL.no rfl rfl rfl rfl rfl rfl ?_
        refine WL.no rfl rfl rfl rfl rfl rfl ?_
        refine WL.no rfl rfl rfl rfl rfl rfl ?_
        refine WL.yes rfl rfl rfl rfl ?_
        refine WL.ex rfl rfl rfl (Ex.pickT rfl rfl) ?_
        refine WL.yes rfl rfl rfl rfl ?_
        refine WL.ex rfl rfl rfl (Ex.mv rfl) ?_
        refine WL.no rfl rfl rfl rfl rfl rfl ?_
        refine WL.no rfl rfl rfl rfl rfl rfl ?_
        refine WL.no rfl rfl rfl rfl rfl rfl ?_
        refine WL.no rfl rfl rfl rfl rfl rfl ?_
        refine WL.yes rfl rfl rfl rfl ?_
        refine WL.ex rfl rfl rfl (Ex.pickT rfl rfl) ?_
        refine WL.ex rfl rfl rfl (Ex.pickT rfl rfl) ?_
        refine WL.ex rfl rfl rfl (Ex.asg rfl) ?_
        refine WL.nil ?_
        refine WX.next (?_)
        refine WC.ret ?_
        refine WX.ret1 rfl rfl ?_
        exact ⟨congrArg Value.bool (decide_eq_true (p := mayI _) ⟨by dsimp only; omega, by dsimp only; omega, fun h => by simp only [List.cons.injEq] at h; omega⟩).symm, M1.keep⟩
      · rw [decide_eq_false h3]
        refine WL.yes rfl rfl rfl rfl ?_
        refine WL.ex rfl rfl rfl (Ex.mv rfl) ?_
        refine WL.yes rfl rfl rfl rfl ?_
        refine WL.ex rfl rfl rfl (Ex.fa fl50_3 rfl) ?_
        refine WL.yes rfl rfl rfl rfl ?_
        refine WL.ex rfl rfl rfl (Ex.iaA Tryd.underlying48 sz23 rfl rfl ⟨by omega, by omega⟩) ?_
        refine WL.yes rfl rfl rfl rfl ?_
        refine WL.ex rfl rfl rfl (Ex.load ty23 rfl (M1.cell (i := 0) rfl rfl)) ?_
        refine WL.yes rfl rfl rfl rfl ?_
        refine WL.ex rfl rfl rfl (Ex.gtr rfl rfl) ?_
        by_cases h4 : (0 : Int) < q
        · rw [decide_eq_true h4]
          refine WL.yes rfl rfl rfl rfl ?_
          refine WL.ex rfl rfl rfl (Ex.pickF rfl rfl) ?_
          refine WL.yes rfl rfl rfl rfl ?_
          refine WL.ex rfl rfl rfl (Ex.mv rfl) ?_
          refine WL.no rfl rfl rfl rfl rfl rfl ?_
          refine WL.no rfl rfl rfl rfl rfl rfl ?_
          refine WL.no rfl rfl rfl rfl rfl rfl ?_
          refine WL.no rfl rfl rfl rfl rfl rfl ?_
          refine WL.yes rfl rfl rfl rfl ?_
          refine WL.ex rfl rfl rfl (Ex.pickT rfl rfl) ?_
          refine WL.yes rfl rfl rfl rfl ?_
          refine WL.ex rfl rfl rfl (Ex.mv rfl) ?_
          refine WL.no rfl rfl rfl rfl rfl rfl ?_
          refine WL.no rfl rfl rfl rfl rfl rfl ?_
          refine WL.no rfl rfl rfl rfl rfl rfl ?_
          refine WL.no rfl rfl rfl rfl rfl rfl ?_
          refine WL.yes rfl rfl rfl rfl ?_
          refine WL.ex rfl rfl rfl (Ex.pickT rfl rfl) ?_
          refine WL.ex rfl rfl rfl (Ex.pickT rfl rfl) ?_
          refine WL.ex rfl rfl rfl (Ex.asg rfl) ?_
          refine WL.nil ?_
          refine WX.next (?_)
          refine WC.ret ?_
          refine WX.ret1 rfl rfl ?_
          exact ⟨congrArg Value.bool (decide_eq_true (p := mayI _) ⟨by dsimp only; omega, by dsimp only; omega, fun h => by simp only [List.cons.injEq] at h; omega⟩).symm, M1.keep⟩
        · rw [decide_eq_false h4]
          refine WL.yes rfl rfl rfl rfl ?_
          refine WL.ex rfl rfl rfl (Ex.pickF rfl rfl) ?_
          refine WL.yes rfl rfl rfl rfl ?_
          refine WL.ex rfl rfl rfl (Ex.mv rfl) ?_
          refine WL.yes rfl rfl rfl rfl ?_
          refine WL.ex rfl rfl rfl (Ex.fa fl50_3 rfl) ?_
          refine WL.yes rfl rfl rfl rfl ?_
          refine WL.ex rfl rfl rfl (Ex.iaA Tryd.underlying48 sz23 rfl rfl ⟨by omega, by omega⟩) ?_
          refine WL.yes rfl rfl rfl rfl ?_
          refine WL.ex rfl rfl rfl (Ex.load ty23 rfl (M1.cell (i := 0) rfl rfl)) ?_
          refine WL.yes rfl rfl rfl rfl ?_
          refine WL.ex rfl rfl rfl (Ex.gtr rfl rfl) ?_
          by_cases h5 : (0 : Int) < r
          · rw [decide_eq_true h5]
            refine WL.yes rfl rfl rfl rfl ?_
            refine WL.ex rfl rfl rfl (Ex.pickF rfl rfl) ?_
            refine WL.yes rfl rfl rfl rfl ?_
            refine WL.ex rfl rfl rfl (Ex.mv rfl) ?_
            refine WL.no rfl rfl rfl rfl rfl rfl ?_
            refine WL.no rfl rfl rfl rfl rfl rfl ?_
            refine WL.no rfl rfl rfl rfl rfl rfl ?_
            refine WL.no rfl rfl rfl rfl rfl rfl ?_
            refine WL.yes rfl rfl rfl rfl ?_
            refine WL.ex rfl rfl rfl (Ex.pickT rfl rfl) ?_
            refine WL.ex rfl rfl rfl (Ex.pickT rfl rfl) ?_
            refine WL.ex rfl rfl rfl (Ex.asg rfl) ?_
            refine WL.nil ?_
            refine WX.next (?_)
            refine WC.ret ?_
            refine WX.ret1 rfl rfl ?_
            exact ⟨congrArg Value.bool (decide_eq_true (p := mayI _) ⟨by dsimp only; omega, by dsimp only; omega, fun h => by simp only [List.cons.injEq] at h; omega⟩).symm, M1.keep⟩
          · rw [decide_eq_false h5]
            refine WL.yes rfl rfl rfl rfl ?_
            refine WL.ex rfl rfl rfl (Ex.pickF rfl rfl) ?_
            refine WL.yes rfl rfl rfl rfl ?_
            refine WL.ex rfl rfl rfl (Ex.mv rfl) ?_
            refine WL.yes rfl rfl rfl rfl ?_
            refine WL.ex rfl rfl rfl (Ex.fa fl50_3 rfl) ?_
            refine WL.yes rfl rfl rfl rfl ?_
            refine WL.ex rfl rfl rfl (Ex.iaA Tryd.underlying48 sz23 rfl rfl ⟨by omega, by omega⟩) ?_
            refine WL.yes rfl rfl rfl rfl ?_
            refine WL.ex rfl rfl rfl (Ex.load ty23 rfl (M1.cell (i := 0) rfl rfl)) ?_
            refine WL.yes rfl rfl rfl rfl ?_
            refine WL.ex rfl rfl rfl (Ex.gtr rfl rfl) ?_
            by_cases h6 : (0 : Int) < s
            · rw [decide_eq_true h6]
              refine WL.yes rfl rfl rfl rfl ?_
              refine WL.ex rfl rfl rfl (Ex.pickF rfl rfl) ?_
              refine WL.ex rfl rfl rfl (Ex.pickT rfl rfl) ?_
              refine WL.ex rfl rfl rfl (Ex.asg rfl) ?_
              refine WL.nil ?_
              refine WX.next (?_)
              refine WC.ret ?_
              refine WX.ret1 rfl rfl ?_
              exact ⟨congrArg Value.bool (decide_eq_true (p := mayI _) ⟨by dsimp only; omega, by dsimp only; omega, fun h => by simp only [List.cons.injEq] at h; omega⟩).symm, M1.keep⟩
            · rw [decide_eq_false h6]
              refine WL.yes rfl rfl rfl rfl ?_
              refine WL.ex rfl rfl rfl (Ex.pickF rfl rfl) ?_
              refine WL.ex rfl rfl rfl (Ex.pickT rfl rfl) ?_
              refine WL.ex rfl rfl rfl (Ex.asg rfl) ?_
              refine WL.nil ?_
              refine WX.next (?_)
              refine WC.ret ?_
              refine WX.ret1 rfl rfl ?_
              exact ⟨congrArg Value.bool (decide_eq_false (p := mayI _) (fun h => by obtain ⟨e1, e2, e3⟩ := h; dsimp only at e1 e2 e3; exact e3 (by rw [show p = 0 by omega, show q = 0 by omega, show r = 0 by omega, show s = 0 by omega]))).symm, M1.keep⟩
    · rw [decide_eq_false h2]
      refine WL.ex rfl rfl rfl (Ex.pickT rfl rfl) ?_
      refine WL.ex rfl rfl rfl (Ex.mv rfl) ?_
      refine WL.no rfl rfl rfl rfl rfl rfl ?_
      refine WL.no rfl rfl rfl rfl rfl rfl ?_
      refine WL.no rfl rfl rfl rfl rfl rfl ?_
      refine WL.no rfl rfl rfl rfl rfl rfl ?_
      refine WL.no rfl rfl rfl rfl rfl rfl ?_
      refine WL.no rfl rfl rfl rfl rfl rfl ?_
      refine WL.no rfl rfl rfl rfl rfl rfl ?_
      refine WL.no rfl rfl rfl rfl rfl rfl ?_
      refine WL.no rfl rfl rfl rfl rfl rfl ?_
      refine WL.no rfl rfl rfl rfl rfl rfl ?_
      refine WL.no rfl rfl rfl rfl rfl rfl ?_
      refine WL.no rfl rfl rfl rfl rfl rfl ?_
      refine WL.no rfl rfl rfl rfl rfl rfl ?_
      refine WL.no rfl rfl rfl rfl rfl rfl ?_
      refine WL.no rfl rfl rfl rfl rfl rfl ?_
      refine WL.no rfl rfl rfl rfl rfl rfl ?_
      refine WL.no rfl rfl rfl rfl rfl rfl ?_
      refine WL.no rfl rfl rfl rfl rfl rfl ?_
      refine WL.no rfl rfl rfl rfl rfl rfl ?_
      refine WL.no rfl rfl rfl rfl rfl rfl ?_
      refine WL.no rfl rfl rfl rfl rfl rfl ?_
      refine WL.no rfl rfl rfl rfl rfl rfl ?_
      refine WL.ex rfl rfl rfl (Ex.pickF rfl rfl) ?_
      refine WL.ex rfl rfl rfl (Ex.asg rfl) ?_
      refine WL.nil ?_
      refine WX.next (?_)
      refine WC.ret ?_
      refine WX.ret1 rfl rfl ?_
      exact ⟨congrArg Value.bool (decide_eq_false (p := mayI _) (fun h => by obtain ⟨e1, e2, e3⟩ := h; dsimp only at e1 e2 e3; omega)).symm, M1.keep⟩
  · rw [decide_eq_false h1]
    refine WL.ex rfl rfl rfl (Ex.mv rfl) ?_
    refine WL.no rfl rfl rfl rfl rfl rfl ?_
    refine WL.no rfl rfl rfl rfl rfl rfl ?_
    refine WL.no rfl rfl rfl rfl rfl rfl ?_
    refine WL.ex rfl rfl rfl (Ex.pickF rfl rfl) ?_
    refine WL.ex rfl rfl rfl (Ex.mv rfl) ?_
    refine WL.no rfl rfl rfl rfl rfl rfl ?_
    refine WL.no rfl rfl rfl rfl rfl rfl ?_
    refine WL.no rfl rfl rfl rfl rfl rfl ?_
    refine WL.no rfl rfl rfl rfl rfl rfl ?_
    refine WL.no rfl rfl rfl rfl rfl rfl ?_
    refine WL.no rfl rfl rfl rfl rfl rfl ?_
    refine WL.no rfl rfl rfl rfl rfl rfl ?_
    refine WL.no rfl rfl rfl rfl rfl rfl ?_
    refine WL.no rfl rfl rfl rfl rfl rfl ?_
    refine WL.no rfl rfl rfl rfl rfl rfl ?_
    refine WL.no rfl rfl rfl rfl rfl rfl ?_
    refine WL.no rfl rfl rfl rfl rfl rfl ?_
    refine WL.no rfl rfl rfl rfl rfl rfl ?_
    refine WL.no rfl rfl rfl rfl rfl rfl ?_
    refine WL.no rfl rfl rfl rfl rfl rfl ?_
    refine WL.no rfl rfl rfl rfl rfl rfl ?_
    refine WL.no rfl rfl rfl rfl rfl rfl ?_
    refine WL.no rfl rfl rfl rfl rfl rfl ?_
    refine WL.no rfl rfl rfl rfl rfl rfl ?_
    refine WL.no rfl rfl rfl rfl rfl rfl ?_
    refine WL.no rfl rfl rfl rfl rfl rfl ?_
    refine WL.no rfl rfl rfl rfl rfl rfl ?_
    refine WL.ex rfl rfl rfl (Ex.pickF rfl rfl) ?_
    refine WL.ex rfl rfl rfl (Ex.asg rfl) ?_
    refine WL.nil ?_
    refine WX.next (?_)
    refine WC.ret ?_
    refine WX.ret1 rfl rfl ?_
    exact ⟨congrArg Value.bool (decide_eq_false (p := mayI _) (fun h => by obtain ⟨e1, e2, e3⟩ := h; dsimp only at e1 e2 e3; omega)).symm, M1.keep⟩

/- sponsion/intent.Check -/
theorem iCheck_ok (w : World) (t : Itt) (ht : IttOk t) :
    Gives Tryd.prog 53 #[.agg (ittC t).toArray] w fun u w1 => u = .int .i64 (if mayI t then 0 else 6) ∧ Keep nof w w1 := by
  obtain ⟨ix, tk, ow, am⟩ := t
  have hta := ht.am
  have htt := ht.tk
  have hto := ht.ow
  dsimp only at hta htt hto
  obtain ⟨p, q, r, s, rfl⟩ := len4 hta.1
  have M0 := Mem.start w nof
  refine Gives.enter (n := 17) Tryd.func53 rfl Tryd.ntmps53 rfl (env := [(0, .agg (ittC ⟨ix, tk, ow, [p, q, r, s]⟩).toArray)]) rfl ?_
  refine WC.seq ?_
  refine WC.region ?_
  refine WL.ac rfl rfl rfl (Ac.box M0 (l := ittC ⟨ix, tk, ow, [p, q, r, s]⟩) rfl rfl) ?_; rintro v1 w1 ⟨gi, rfl, hg1, K1, M1⟩
  refine WL.ex rfl rfl rfl (Ex.asg rfl) ?_
  refine WL.nil ?_
  refine WX.next (?_)
  refine WC.seq ?_
  refine WC.seq ?_
  refine WC.region ?_
  refine WL.ex rfl rfl rfl (Ex.fa fl50_1 rfl) ?_
  refine WL.ex rfl rfl rfl (Ex.load ty5 rfl (M1.cell (i := 0) rfl rfl)) ?_
  refine WL.ex rfl rfl rfl (Ex.geq rfl rfl) ?_
  by_cases h1 : (4 : Int) ≤ tk
  · rw [decide_eq_true h1]
    refine WL.ex rfl rfl rfl (Ex.mv rfl) ?_
    refine WL.no rfl rfl rfl rfl rfl rfl ?_
    refine WL.no rfl rfl rfl rfl rfl rfl ?_
    refine WL.no rfl rfl rfl rfl rfl rfl ?_
    refine WL.ex rfl rfl rfl (Ex.pickT rfl rfl) ?_
    refine WL.ex rfl rfl rfl (Ex.mv rfl) ?_
    refine WL.no rfl rfl rfl rfl rfl rfl ?_
    refine WL.no rfl rfl rfl rfl rfl rfl ?_
    refine WL.no rfl rfl rfl rfl rfl rfl ?_
    refine WL.no rfl rfl rfl rfl rfl rfl ?_
    refine WL.ex rfl rfl rfl (Ex.pickT rfl rfl) ?_
    refine WL.nil ?_
    refine WX.next (?_)
    refine WC.yes rfl ?_
    refine WC.seq ?_
    refine WC.region ?_
    refine WL.ex rfl rfl rfl (Ex.asg rfl) ?_
    refine WL.nil ?_
    refine WX.next (?_)
    refine WC.ret ?_
    refine WX.ret_then (?_)
    refine WX.ret1 rfl rfl ?_
    exact ⟨by rw [if_neg (fun h : mayI _ => by obtain ⟨e1, e2, e3⟩ := h; dsimp only at e1 e2 e3; first | omega | exact e3 h3)], M1.keep⟩
  · rw [decide_eq_false h1]
    refine WL.ex rfl rfl rfl (Ex.mv rfl) ?_
    refine WL.yes rfl rfl rfl rfl ?_
    refine WL.ex rfl rfl rfl (Ex.fa fl50_2 rfl) ?_
    refine WL.yes rfl rfl rfl rfl ?_
    refine WL.ex rfl rfl rfl (Ex.load ty5 rfl (M1.cell (i := 0) rfl rfl)) ?_
    refine WL.yes rfl rfl rfl rfl ?_
    refine WL.ex rfl rfl rfl (Ex.geq rfl rfl) ?_
    by_cases h2 : (16 : Int) ≤ ow
    · rw [decide_eq_true h2]
      refine WL.ex rfl rfl rfl (Ex.pickF rfl rfl) ?_
      refine WL.ex rfl rfl rfl (Ex.mv rfl) ?_
      refine WL.no rfl rfl rfl rfl rfl rfl ?_
      refine WL.no rfl rfl rfl rfl rfl rfl ?_
      refine WL.no rfl rfl rfl rfl rfl rfl ?_
      refine WL.no rfl rfl rfl rfl rfl rfl ?_
      refine WL.ex rfl rfl rfl (Ex.pickT rfl rfl) ?_
      refine WL.nil ?_
      refine WX.next (?_)
      refine WC.yes rfl ?_
      refine WC.seq ?_
      refine WC.region ?_
      refine WL.ex rfl rfl rfl (Ex.asg rfl) ?_
      refine WL.nil ?_
      refine WX.next (?_)
      refine WC.ret ?_
      refine WX.ret_then (?_)
      refine WX.ret1 rfl rfl ?_
      exact ⟨by rw [if_neg (fun h : mayI _ => by obtain ⟨e1, e2, e3⟩ := h; dsimp only at e1 e2 e3; first | omega | exact e3 h3)], M1.keep⟩
    · rw [decide_eq_false h2]
      refine WL.ex rfl rfl rfl (Ex.pickF rfl rfl) ?_
      refine WL.ex rfl rfl rfl (Ex.mv rfl) ?_
      refine WL.yes rfl rfl rfl rfl ?_
      refine WL.ex rfl rfl rfl (Ex.fa fl50_3 rfl) ?_
      refine WL.yes rfl rfl rfl rfl ?_
      refine WL.ex rfl rfl rfl (Ex.loadA ty48 rfl (l := intV [p, q, r, s]) rfl (M1.rdt (m := 4) (i := 0) rfl rfl)) ?_
      refine WL.yes rfl rfl rfl rfl ?_
      refine WL.ex rfl rfl rfl (Ex.bld bd48 (parts := []) (l := intV [0, 0, 0, 0]) rfl rfl rfl rfl) ?_
      refine WL.yes rfl rfl rfl rfl ?_
      refine WL.ex rfl rfl rfl (Ex.eqA rfl rfl (eqInt w hta int4_0)) ?_
      by_cases h3 : [p, q, r, s] = [0, 0, 0, 0]
      · rw [decide_eq_true h3]
        refine WL.ex rfl rfl rfl (Ex.pickF rfl rfl) ?_
        refine WL.nil ?_
        refine WX.next (?_)
        refine WC.yes rfl ?_
        refine WC.seq ?_
        refine WC.region ?_
        refine WL.ex rfl rfl rfl (Ex.asg rfl) ?_
        refine WL.nil ?_
        refine WX.next (?_)
        refine WC.ret ?_
        refine WX.ret_then (?_)
        refine WX.ret1 rfl rfl ?_
        exact ⟨by rw [if_neg (fun h : mayI _ => by obtain ⟨e1, e2, e3⟩ := h; dsimp only at e1 e2 e3; first | omega | exact e3 h3)], M1.keep⟩
      · rw [decide_eq_false h3]
        refine WL.ex rfl rfl rfl (Ex.pickF rfl rfl) ?_
        refine WL.nil ?_
        refine WX.next (?_)
        refine WC.no rfl ?_
        refine WC.skip ?_
        refine WX.next (?_)
        refine WC.seq ?_
        refine WC.region ?_
        refine WL.ex rfl rfl rfl (Ex.asg rfl) ?_
        refine WL.nil ?_
        refine WX.next (?_)
        refine WC.ret ?_
        refine WX.ret1 rfl rfl ?_
        exact ⟨by rw [if_pos (show mayI _ from ⟨by dsimp only; omega, by dsimp only; omega, h3⟩)], M1.keep⟩

/- sponsion/intent.Leaf -/
theorem iLeaf_ok (w : World) (t : Itt) (ht : IttOk t) (hT : Tabs w) :
    Gives Tryd.prog 27 #[.agg (ittC t).toArray] w fun u w1 => u = .agg (bytesV (iLeaf t)).toArray ∧ Keep nof w w1 := by
  have M0 := Mem.start w nof
  have hs32 := iLeaf_len t
  refine Gives.enter (n := 6) Tryd.func27 rfl Tryd.ntmps27 rfl (env := [(0, .agg (ittC t).toArray)]) rfl ?_
  refine WC.seq ?_
  refine WC.region ?_
  refine WL.ac rfl rfl rfl (Ac.box M0 rfl rfl) ?_; rintro v1 w1 ⟨gi, rfl, hg1, K1, M1⟩
  refine WL.ac rfl rfl rfl (Ac.alloc M1 (l := bytesV (List.replicate 32 0)) (by kernel_rfl)) ?_; rintro v2 w2 ⟨g1, rfl, hg2, K2, M2⟩
  refine WL.nil ?_
  refine WX.next (?_)
  refine WC.seq ?_
  refine WC.region ?_
  refine WL.ex rfl rfl rfl (Ex.loadA ty50 rfl (itt_len (by first | assumption | exact itt0_ok)) (M2.rdw (i := 1) rfl)) ?_
  refine WL.ac rfl rfl rfl (Ac.call rfl Tryd.func57 nm57 rfl (iBytes_ok w2 _ ht)) ?_; rintro v4 w4 N4
  have M4 := M2.new N4
  obtain ⟨A2, c2, rfl⟩ := own_slice (M4.get (i := 0) rfl)
  obtain ⟨B, hB⟩ : ∃ B, B = ittB t := ⟨_, rfl⟩
  have hBl : B.length = 38 := by rw [hB]; simp
  have hBi : dOf 3 [B] = iID t := by rw [hB]; rfl
  have hBf : dLeaf B = iLeaf t := by rw [hB]; rfl
  rw [← hB] at M4 ⊢
  refine WL.ac rfl rfl rfl (Ac.call rfl Tryd.func56 nm56 rfl (leaf_ok w4 A2 c2 B (M4.rdr (i := 0) rfl) (hT.keep M4.keep) (by omega))) ?_; rintro v5 w5 ⟨rfl, K5⟩
  rw [hBf]
  have M5 := M4.step K5
  refine WL.ac0 rfl rfl (Ac.stA M5 ty31 rfl rfl rfl (h32_len (by first | assumption | exact h32_0)) (bytesV_one _) (i := 1) rfl (by first | (rw [h32_len (by first | assumption | exact h32_0), h32_len (by first | assumption | exact h32_0)]; decide) | (rw [h32_len (by first | assumption | exact h32_0)]; decide) | rw [h32_len (by first | assumption | exact h32_0)])) ?_; rintro v6 w6 ⟨K6, M6⟩
  try dsimp only [List.set] at M6
  rw [splice_all _ _ (by first | rw [h32_len (by first | assumption | exact h32_0), h32_len (by first | assumption | exact h32_0)] | rw [h32_len (by first | assumption | exact h32_0)])] at M6
  refine WL.nil ?_
  refine WX.next (?_)
  refine WC.ret ?_
  refine WX.retc rfl rfl (run_loadVarA ty31 (h32_len (by first | assumption | exact h32_0)) (M6.rdw (i := 1) rfl)) ?_
  exact ⟨rfl, M6.keep⟩

end Go.Proofs.YtchmjpdkonfifaaDoor
