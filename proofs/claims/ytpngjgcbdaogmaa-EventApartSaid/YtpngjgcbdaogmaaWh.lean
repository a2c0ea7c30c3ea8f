/- Walks, written by gen.py off the translation's own print: each says what the Go function comes to. -/
import Derived.Test.YtpngjgcbdaogmaaWg
import Derived.Test.YtpngjgcbdaogmaaEq
set_option linter.unusedVariables false
set_option linter.unusedSimpArgs false
namespace Go.Proofs.Ytpngjgcbdaogmaa
open Go.Sx Go.RowKit
attribute [local irreducible] Ac Ex WL WC WX WP Gives

theorem eqInt (w : World) {a b : List Nat} (ha : Int4 a) (hb : Int4 b) : EqT Try.prog 35 (intV a) (intV b) (decide (a = b)) :=
  EqT.to (EqT_of (w := w) (n := 8) (ks := rep 4 [.int .u64]) (by kernel_rfl) rfl (by kernel_rfl) (by decide) (by kernel_rfl) (by kernel_rfl) (by kernel_rfl)
    (by have := oks_u64 (w := w) a ha.mem; rw [ha.1] at this; exact this) (by have := oks_u64 (w := w) b hb.mem; rw [hb.1] at this; exact this)) ⟨intV_inj, fun e => by rw [e]⟩
theorem eqHash (w : World) {a b : List UInt8} (ha : a.length = 32) (hb : b.length = 32) : EqT Try.prog 37 (bytesV a) (bytesV b) (decide (a = b)) :=
  EqT.to (EqT_of (w := w) (n := 8) (ks := rep 32 [.int .u8]) (by kernel_rfl) rfl (by kernel_rfl) (by decide) (by kernel_rfl) (by kernel_rfl) (by kernel_rfl)
    (by have := oks_u8 (w := w) a; rw [ha] at this; exact this) (by have := oks_u8 (w := w) b; rw [hb] at this; exact this)) ⟨bytesV_inj, fun e => by rw [e]⟩

/-- A thing that is written or read. -/
structure Item where
  k : Nat
  x : Nat
  a : List Nat
  h : List UInt8
  B : SV
  n : Int
  e : Int
def itemC (t : Item) : List Value := [.int .u8 (t.k : Int), .int .u64 (t.x : Int)] ++ intV t.a ++ bytesV t.h ++ [svV t.B, .int .i64 t.n, .int .i64 t.e]
structure ItemOk (t : Item) : Prop where
  k : t.k < 256
  x : t.x < 18446744073709551616
  a : Int4 t.a
  h : t.h.length = 32
  n1 : -9223372036854775808 ≤ t.n
  n2 : t.n ≤ 9223372036854775807
  e1 : -9223372036854775808 ≤ t.e
  e2 : t.e ≤ 9223372036854775807
theorem item_len {t : Item} (h : ItemOk t) : (itemC t).length = 41 := by simp [itemC, h.a.1, h.h]
theorem item_1 (t : Item) : (itemC t)[1]? = some (.int .u64 (t.x : Int)) := rfl
theorem item_2 {t : Item} (h : ItemOk t) : ((itemC t).drop 2).take 4 = intV t.a := by simp [itemC, h.a.1, List.drop_append, List.take_append, List.take_of_length_le]
theorem item_6 {t : Item} (h : ItemOk t) : ((itemC t).drop 6).take 32 = bytesV t.h := by simp [itemC, h.a.1, h.h, List.drop_append, List.take_append, List.take_of_length_le, List.drop_eq_nil_of_le]
theorem item_38 {t : Item} (h : ItemOk t) : (itemC t)[38]? = some (svV t.B) := by simp [itemC, h.a.1, h.h, List.getElem?_append]
theorem item_39 {t : Item} (h : ItemOk t) : (itemC t)[39]? = some (.int .i64 t.n) := by simp [itemC, h.a.1, h.h, List.getElem?_append]
theorem item_40 {t : Item} (h : ItemOk t) : (itemC t)[40]? = some (.int .i64 t.e) := by simp [itemC, h.a.1, h.h, List.getElem?_append]
theorem item_one {t : Item} : ∀ u ∈ itemC t, u.oneCell' = true := by
  intro u hu
  simp only [itemC, List.mem_append, List.mem_cons, List.not_mem_nil, or_false] at hu
  rcases hu with (((rfl | rfl) | hu) | hu) | (rfl | rfl | rfl)
  · rfl
  · rfl
  · exact intV_one _ u hu
  · exact bytesV_one _ u hu
  · rfl
  · rfl
  · rfl
/-- A slice of items that can be read. -/
structure RdI (w : World) (A : Option Addr) (its : List Item) : Prop where
  row : Rd w A (its.flatMap itemC)
  ok : ∀ t ∈ its, ItemOk t
  rd : ∀ t ∈ its, Rd w t.B.A (bytesV t.B.l)
theorem RdI.keep {w w' : World} {A : Option Addr} {its : List Item} (h : RdI w A its) (k : Keep nof w w') : RdI w' A its := ⟨h.row.keep0 k, h.ok, fun t ht => (h.rd t ht).keep0 k⟩
def fewI (its : List Item) : Prop := (∀ t ∈ its, t.B.l.length ≤ 100) ∧ its.length ≤ 30
instance (its : List Item) : Decidable (fewI its) := by unfold fewI; infer_instance
theorem RdI.plain {w : World} {A : Option Addr} {its : List Item} (h : RdI w A its) {i : Nat} {p : Item} (hp : its[i]? = some p) : ∃ b o, A = some ⟨b, o, none⟩ := by
  exact h.row.flat_plain (List.mem_of_getElem? hp) (by rw [item_len (h.ok p (List.mem_of_getElem? hp))]; omega)

/- sponsion/sponsionlaw04.few -/
theorem few04_ok (w : World) (A : Option Addr) (c : Nat) (its : List Item) (hr : RdI w A its) (hb : its.length ≤ 9223372036854775807) :
    Gives Try.prog 17 #[.slice A its.length c] w fun u w1 => u = .bool (decide (fewI its)) ∧ Keep nof w w1 := by
  have M0 := Mem.start w nof
  refine Gives.enter (n := 19) Try.func17 rfl Try.ntmps17 rfl (env := [(0, .slice A its.length c)]) rfl ?_
  refine WC.seq ?_
  refine WC.region ?_
  refine WL.ex rfl rfl rfl (Ex.asg rfl) ?_
  refine WL.nil ?_
  refine WX.next (?_)
  refine WC.seq ?_
  refine WC.seq ?_
  refine WC.region ?_
  refine WL.ex rfl rfl rfl (Ex.mv rfl) ?_
  refine WL.ex rfl rfl rfl (Ex.len Try.underlying28 rfl) ?_
  refine WL.ex rfl rfl rfl (Ex.mv rfl) ?_
  refine WL.nil ?_
  refine WX.next (?_)
  refine WC.block ?_
  refine WC.loop (σ := Nat) (fun i => [(5, .slice A its.length c), (6, .int .i64 (its.length : Int)), (7, .int .i64 (i : Int)), (0, .slice A its.length c)]) (fun i wr => i ≤ its.length ∧ Mem w wr nof [] ∧ ∀ p ∈ its.take i, p.B.l.length ≤ 100) (fun i => its.length - i) (0) ?_ (.cons rfl (.cons rfl (.cons rfl (.cons rfl (.nil))))) ?_
  · exact ⟨by omega, M0, by simp⟩
  rintro i w5 ⟨hi, M5, hall⟩
  refine WC.seq ?_
  refine WC.region ?_
  refine WL.ex rfl rfl rfl (Ex.lss rfl rfl) ?_
  refine WL.nil ?_
  refine WX.next (?_)
  refine WC.seq ?_
  refine WC.cond_dec rfl (fun hc8 => ?_) (fun hc8 => ?_)
  · obtain ⟨p, hpi⟩ : ∃ p, its[i]? = some p := ⟨_, List.getElem?_eq_getElem (by omega)⟩
    have hpm : p ∈ its := List.mem_of_getElem? hpi
    have hpo := hr.ok p hpm
    have hok := hpo.k
    have hox := hpo.x
    have hoa := hpo.a
    have hoh := hpo.h
    obtain ⟨b0, o0, hA⟩ := hr.plain hpi
    subst hA
    refine WC.skip ?_
    refine WX.next (?_)
    refine WC.seq ?_
    refine WC.block ?_
    refine WC.seq ?_
    refine WC.region ?_
    refine WL.ex rfl rfl rfl (Ex.ia Try.underlying28 sz39 rfl rfl ⟨by omega, by omega⟩) ?_
    refine WL.ex rfl rfl rfl (Ex.loadA ty39 rfl (l := itemC p) (item_len hpo) (Rd.flat (hr.keep M5.keep).row (i := (i : Int).toNat) (fun t ht => item_len (hr.ok t ht)) (by simpa using hpi))) ?_
    refine WL.ac rfl rfl rfl (Ac.alloc M5 al39) ?_; rintro v9 w9 ⟨g9, rfl, hg9, K9, M9⟩
    refine WL.ac0 rfl rfl (Ac.stA M9 ty39 rfl rfl (vs := itemC p) rfl (item_len hpo) item_one (i := 0) rfl (by simp [item_len hpo])) ?_; rintro v10 w10 ⟨K10, M10⟩
    try dsimp only [List.set] at M10
    rw [splice_all _ _ (by simp [item_len hpo])] at M10
    refine WL.nil ?_
    refine WX.next (?_)
    refine WC.seq ?_
    refine WC.region ?_
    refine WL.ex rfl rfl rfl (Ex.fa fl39_4 rfl) ?_
    refine WL.ex rfl rfl rfl (Ex.load ty25 rfl (M10.cell (i := 0) rfl (item_38 hpo))) ?_
    refine WL.ex rfl rfl rfl (Ex.len Try.underlying25 rfl) ?_
    refine WL.ex rfl rfl rfl (Ex.gtr rfl rfl) ?_
    refine WL.nil ?_
    refine WX.next (?_)
    refine WC.cond_dec rfl (fun hc14 => ?_) (fun hc14 => ?_)
    · skip
      refine WC.seq ?_
      refine WC.region ?_
      refine WL.ex rfl rfl rfl (Ex.asg rfl) ?_
      refine WL.nil ?_
      refine WX.next (?_)
      refine WC.ret ?_
      refine WX.ret_block (WX.ret_then (WX.ret_then (WX.ret_block (WX.ret_then (?_)))))
      refine WX.ret1 rfl rfl ?_
      first | exact ⟨congrArg Value.bool (decide_eq_false fun h => by have := h.1 p hpm; omega).symm, M10.keep⟩ | exact ⟨congrArg Value.bool (decide_eq_decide.2 ⟨fun h => ⟨hall, by omega⟩, fun h => by have := h.2; omega⟩), M10.keep⟩
    · skip
      refine WC.skip ?_
      refine WX.normal_block (WX.next (?_))
      refine WC.region ?_
      refine WL.ex rfl rfl rfl (Ex.add rfl rfl (i64w _ (by omega) (by omega))) ?_
      refine WL.ex rfl rfl rfl (Ex.mv rfl) ?_
      refine WL.nil ?_
      refine WX.again (i + 1) ?_ ?_ (.cons rfl (.cons rfl (.cons rfl (.cons rfl (.nil)))))
      · (try dsimp only); omega
      · refine ⟨by omega, M10.drop1, ?_⟩
        rw [take_snoc hpi]
        intro q hq
        rcases List.mem_append.1 hq with hq | hq
        · exact hall q hq
        · obtain rfl : q = p := by simpa using hq
          omega
  · obtain rfl : i = its.length := by omega
    rw [List.take_of_length_le (Nat.le_refl _)] at hall
    refine WC.exit ?_
    refine WX.exit_then (WX.exit_then (WX.exit_block (WX.next (?_))))
    refine WC.seq ?_
    refine WC.region ?_
    refine WL.ex rfl rfl rfl (Ex.mv rfl) ?_
    refine WL.ex rfl rfl rfl (Ex.len Try.underlying28 rfl) ?_
    refine WL.ex rfl rfl rfl (Ex.leq rfl rfl) ?_
    refine WL.ex rfl rfl rfl (Ex.asg rfl) ?_
    refine WL.nil ?_
    refine WX.next (?_)
    refine WC.ret ?_
    refine WX.ret1 rfl rfl ?_
    first | exact ⟨congrArg Value.bool (decide_eq_false fun h => by have := h.1 p hpm; omega).symm, M5.keep⟩ | exact ⟨congrArg Value.bool (decide_eq_decide.2 ⟨fun h => ⟨hall, by omega⟩, fun h => by have := h.2; omega⟩), M5.keep⟩

theorem rTake_app1 {a b : List UInt8} {e : Int} {n : Nat} (h : a.length = n) : (rTake (a ++ b, e) n).1 = a := by
  subst h
  rw [rTake, if_neg (by simp)]
  simp
theorem rTake_app2 {a b : List UInt8} {e : Int} {n : Nat} (h : a.length = n) : (rTake (a ++ b, e) n).2 = (b, e) := by
  subst h
  rw [rTake, if_neg (by simp)]
  simp
theorem beVal_be' {n x : Nat} (h : x < 256 ^ n) : beVal (be n x) = x := by rw [beVal_be, Nat.mod_eq_of_lt h]
theorem rTake_app {a b : List UInt8} {e : Int} {n : Nat} (h : a.length = n) : rTake (a ++ b, e) n = (a, (b, e)) := by
  subst h
  rw [rTake, if_neg (by simp)]
  simp
/-- The bytes of an item, all things of it. -/
def backB (t : Item) : List UInt8 := be 1 t.k ++ (be 4 (t.x % 4294967296) ++ (be 8 t.x ++ (intB t.a ++ (t.h ++ t.B.l))))
theorem backB_len {t : Item} (h : ItemOk t) : (backB t).length = 77 + t.B.l.length := by simp [backB, h.h]; omega
theorem back_take_len {its : List Item} (h : ∀ t ∈ its, ItemOk t) (hf : fewI its) (i : Nat) : ((its.take i).flatMap backB).length ≤ 177 * i := by
  have key : ∀ l : List Item, (∀ t ∈ l, ItemOk t ∧ t.B.l.length ≤ 100) → (l.flatMap backB).length ≤ 177 * l.length := by
    intro l
    induction l with
    | nil => simp
    | cons a r ih =>
      intro hl
      have h1 := ih fun t ht => hl t (by simp [ht])
      have h2 := hl a (by simp)
      have h3 := backB_len h2.1
      simp only [List.flatMap_cons, List.length_append, List.length_cons]
      omega
  have := key (its.take i) fun t ht => ⟨h t (List.mem_of_mem_take ht), hf.1 t (List.mem_of_mem_take ht)⟩
  have h2 : (its.take i).length ≤ i := by simp; omega
  omega
theorem back_drop_len {its : List Item} (h : ∀ t ∈ its, ItemOk t) (hf : fewI its) (i : Nat) : ((its.drop i).flatMap backB).length ≤ 177 * its.length := by
  have h1 := back_take_len h hf its.length
  rw [List.take_length] at h1
  have h2 : its.flatMap backB = (its.take i).flatMap backB ++ (its.drop i).flatMap backB := by rw [← List.flatMap_append, List.take_append_drop]
  rw [h2, List.length_append] at h1
  omega
theorem back_snoc {its : List Item} {i : Nat} {p : Item} (h : its[i]? = some p) : (its.take (i + 1)).flatMap backB = (its.take i).flatMap backB ++ backB p := by rw [take_snoc h]; simp
theorem back_cons {its : List Item} {i : Nat} {p : Item} (h : its[i]? = some p) : (its.drop i).flatMap backB = backB p ++ (its.drop (i + 1)).flatMap backB := by
  obtain ⟨h1, h2⟩ := List.getElem?_eq_some_iff.1 h
  rw [List.drop_eq_getElem_cons h1, h2]; simp

theorem oks_splitN {w : World} {ks ls : List CK} {vs : List Value} (n : Nat) (h : CK.oks w (ks ++ ls) vs) (hn : ks.length = n) : CK.oks w ks (vs.take n) ∧ CK.oks w ls (vs.drop n) := by
  subst hn
  exact oks_split ks ls vs h
theorem int4_of {a : List Nat} (h : a.length = 4) (hb : ∀ x ∈ a, x < 18446744073709551616) : Int4 a := ⟨h, fun i => by
  rw [List.getD]
  cases hi : a[i]? with
  | none => simp
  | some x => exact hb x (List.mem_of_getElem? hi)⟩
abbrev itemK : List CK := .int .u8 :: .int .u64 :: (rep 4 [.int .u64] ++ (rep 32 [.int .u8] ++ [.sl [.int .u8], .int .i64, .int .i64]))
theorem item_view {w : World} {vs : List Value} (h : CK.oks w itemK vs) : ∃ t, vs = itemC t ∧ (ItemOk t ∧ Rd w t.B.A (bytesV t.B.l)) := by
  obtain ⟨v0, r0, rfl, h0, v1, r1, rfl, h1, h2⟩ := h
  obtain ⟨h3, h4⟩ := oks_splitN 4 h2 rfl
  obtain ⟨h5, h6⟩ := oks_splitN 32 h4 rfl
  obtain ⟨k, hk, rfl⟩ := ok_u8n h0
  obtain ⟨x, hx, rfl⟩ := ok_u64 h1
  obtain ⟨a, ha, hab, e3⟩ := oks_u64s 4 _ h3
  obtain ⟨l, hl, e5⟩ := oks_u8s 32 _ h5
  obtain ⟨v2, r2, e6, h7, v3, r3, rfl, h8, v4, r4, rfl, h9, h10⟩ := h6
  simp only [CK.oks] at h10
  subst h10
  obtain ⟨A, c, b, rfl, _, _, hb⟩ := ok_bytes h7
  obtain ⟨n, hn1, hn2, rfl⟩ := ok_i64 h8
  obtain ⟨e, he1, he2, rfl⟩ := ok_i64 h9
  refine ⟨⟨k, x, a, l, ⟨A, c, b⟩, n, e⟩, ?_, ⟨hk, hx, int4_of ha hab, hl, hn1, hn2, he1, he2⟩, hb⟩
  rw [← List.take_append_drop 4 r1, ← List.take_append_drop 32 (r1.drop 4), e3, e5, e6]
  simp [itemC, svV]
theorem ok_items {w : World} {v : Value} (h : CK.ok w (.sl itemK) v) : ∃ A c, ∃ its : List Item, v = .slice A its.length c ∧ its.length ≤ c ∧ c ≤ maxLen ∧ RdI w A its := by
  obtain ⟨A, c, its, h1, h2, h3, h4, h5⟩ := sl_view h itemC _ (fun vs hv => item_view hv)
  exact ⟨A, c, its, h1, h2, h3, ⟨h4, fun t ht => (h5 t ht).1, fun t ht => (h5 t ht).2⟩⟩

end Go.Proofs.Ytpngjgcbdaogmaa
