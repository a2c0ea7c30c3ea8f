/- Walks, written by gen.py off the translation's own print: each says what the Go function comes to. -/
import Derived.Test.YtchmjpdkonfifaaDoorY6
import Derived.Test.YtchmjpdkonfifaaDoorAl
set_option linter.unusedVariables false
set_option linter.unusedSimpArgs false
namespace Go.Proofs.YtchmjpdkonfifaaDoor
open Go.Sx Go.RowKit
attribute [local irreducible] Ac Ex WL WC WX WP Gives sha

def h1_ : List UInt8 := 1 :: List.replicate 31 0
theorem h1_32 : H32 h1_ := rfl
theorem tApp_ok {d : Nat} {ls : Hs} {h : List UInt8} (hl : ls.length < 2 ^ d) : tApp d ls h = (ls.length, 0, ls ++ [h]) := if_pos hl
theorem tApp_a {d : Nat} {ls : Hs} {h : List UInt8} (hl : ls.length < 2 ^ d) : (tApp d ls h).1 = ls.length := by rw [tApp_ok hl]
theorem tApp_b {d : Nat} {ls : Hs} {h : List UInt8} (hl : ls.length < 2 ^ d) : (tApp d ls h).2.1 = 0 := by rw [tApp_ok hl]
theorem tApp_c {d : Nat} {ls : Hs} {h : List UInt8} (hl : ls.length < 2 ^ d) : (tApp d ls h).2.2 = ls ++ [h] := by rw [tApp_ok hl]
def h2_ : List UInt8 := 2 :: List.replicate 31 0
theorem h2_32 : H32 h2_ := rfl
theorem hs2_32 : ∀ a ∈ [h1_, h2_], H32 a := by
  intro a ha
  simp only [List.mem_cons, List.not_mem_nil, or_false] at ha
  rcases ha with rfl | rfl
  · exact h1_32
  · exact h2_32
theorem rise_eq {xs zs ys : List Nat} (h : Rise xs zs) (hy : ys.Pairwise (· < ·)) (hm : ∀ v, v ∈ ys ↔ v ∈ xs) : zs = ys := si_eq h.si (si_of_pw hy) (fun v => by rw [h.mem v, hm v])
theorem rise10 {zs : List Nat} (h : Rise [1, 0] zs) : zs = [0, 1] := rise_eq h (by decide) (fun v => by simp; omega)
theorem rise0 {x : Nat} {zs : List Nat} (h : Rise [x] zs) : zs = [x] := rise_eq h (by simp) (fun v => Iff.rfl)
theorem sib_h2 : sibs (fun l i => (tNode 1 [h1_, h2_] 2 l i).1) 1 0 [0] = [h2_] := by
  show [(tNode 1 [h1_, h2_] 2 (0 : Nat) 1).1] = _
  rw [tNode_yes (k := 0) (a := h2_) (by decide) (by decide) (by decide) rfl]
theorem gv_lt {xs : List Nat} {B : Nat} (h : ∀ x ∈ xs, x < B) (h0 : 0 < B) : ∀ k, gv xs k < B := fun k => by
  by_cases hk : k < xs.length
  · exact h _ (gv_mem hk)
  · unfold gv
    rw [List.getD_eq_getElem?_getD, List.getElem?_eq_none (by omega)]
    exact h0

theorem _root_.Go.Sx.Ex.eqIt {P : Program} {n : Nat} {env : Env} {w : World} {dst : Option Nat} {ty : TypeId} {pos : String} {aft : Array Edge} {g : Option (Nat × Bool)} {t t' : TypeId} {x y : Operand} {k : IntKind} {p q : Int} (hx : ev env x = some (.int k p)) (hy : ev env y = some (.int k q)) (h : p = q) :
    Ex P n env (Oper.mk dst (.binOp .eql t x y t') ty pos aft g) (.bool true) w := by
  have h1 := Ex.eqI (P := P) (n := n) (w := w) (dst := dst) (ty := ty) (pos := pos) (aft := aft) (g := g) (t := t) (t' := t') hx hy
  rwa [decide_eq_true h] at h1
theorem _root_.Go.Sx.Ex.neIf {P : Program} {n : Nat} {env : Env} {w : World} {dst : Option Nat} {ty : TypeId} {pos : String} {aft : Array Edge} {g : Option (Nat × Bool)} {t t' : TypeId} {x y : Operand} {k : IntKind} {p q : Int} (hx : ev env x = some (.int k p)) (hy : ev env y = some (.int k q)) (h : p = q) :
    Ex P n env (Oper.mk dst (.binOp .neq t x y t') ty pos aft g) (.bool false) w := by
  have h1 := Ex.neI (P := P) (n := n) (w := w) (dst := dst) (ty := ty) (pos := pos) (aft := aft) (g := g) (t := t) (t' := t') hx hy
  rwa [decide_eq_true h] at h1
theorem _root_.Go.Sx.Ex.neIt {P : Program} {n : Nat} {env : Env} {w : World} {dst : Option Nat} {ty : TypeId} {pos : String} {aft : Array Edge} {g : Option (Nat × Bool)} {t t' : TypeId} {x y : Operand} {k : IntKind} {p q : Int} (hx : ev env x = some (.int k p)) (hy : ev env y = some (.int k q)) (h : p ≠ q) :
    Ex P n env (Oper.mk dst (.binOp .neq t x y t') ty pos aft g) (.bool true) w := by
  have h1 := Ex.neI (P := P) (n := n) (w := w) (dst := dst) (ty := ty) (pos := pos) (aft := aft) (g := g) (t := t) (t' := t') hx hy
  rwa [decide_eq_false h] at h1

/- sponsion/sponsionlaw33.lives -/
theorem lives33_ok (w : World) (hT : Tabs w) :
    Gives Tryd.prog 29 #[] w fun u w1 => u = .bool true ∧ Keep nof w w1 := by
  have M0 := Mem.start w nof
  have hs := hs2_32
  have hal : ∀ a ∈ [h1_], H32 a := by intro a ha; obtain rfl : a = h1_ := (by simpa using ha); exact h1_32
  refine Gives.enter (n := 57) Tryd.func29 rfl Tryd.ntmps29 rfl (env := []) rfl ?_
  refine qD ?_
  refine qB ?_
  refine qE ?_
  refine qD ?_
  refine WL.ac rfl rfl rfl (Ac.call rfl Tryd.func42 nm42 rfl (tNew_ok w 1 (by decide) (hT.keep M0.keep))) ?_; rintro v2 w2 ⟨g, gl, ge, rfl, N2⟩
  have M2 := (M0.new N2).openS
  refine qB ?_
  refine qE ?_
  refine qD ?_
  refine qA ?_
  refine WL.ex rfl rfl rfl (Ex.bldS bd31 (parts := [(0, .const (.int .u8 1))]) [[.int .u8 1]] (l := bytesV h1_) rfl rfl rfl ⟨0, 1, rfl, rfl, rfl, by simp, rfl⟩) ?_
  refine WL.ac rfl rfl rfl (Ac.call rfl Tryd.func54 nm54 rfl (tAppend_ok w2 g gl ge 1 (nilS 2) ([]) h1_ (M2.get (i := 1) rfl) (by simp) h1_32 (by decide) (hT.keep M2.keep) (M2.tabF hT 1 rfl))) ?_; rintro v6 w6 ⟨vs1, rfl, T6⟩
  rw [tApp_ok (by decide)] at T6 ⊢
  dsimp only at T6
  rw [List.nil_append] at T6
  have M6 := M2.turned (i := 1) rfl T6
  try dsimp only [List.set] at M6
  refine qE ?_
  refine qD ?_
  refine qA ?_
  refine WL.ex rfl rfl rfl (Ex.bldS bd31 (parts := [(0, .const (.int .u8 2))]) [[.int .u8 2]] (l := bytesV h2_) rfl rfl rfl ⟨0, 1, rfl, rfl, rfl, by simp, rfl⟩) ?_
  refine WL.ac rfl rfl rfl (Ac.call rfl Tryd.func54 nm54 rfl (tAppend_ok w6 g gl ge 1 vs1 ([h1_]) h2_ (M6.get (i := 1) rfl) hal h2_32 (by decide) (hT.keep M6.keep) (M6.tabF hT 1 rfl))) ?_; rintro v9 w9 ⟨vs2, rfl, T9⟩
  rw [tApp_ok (by decide)] at T9 ⊢
  dsimp only at T9
  rw [show [h1_] ++ [h2_] = [h1_, h2_] from rfl] at T9
  have M9 := M6.turned (i := 1) rfl T9
  try dsimp only [List.set] at M9
  refine qE ?_
  refine qD ?_
  refine qA ?_
  refine WL.ac rfl rfl rfl (Ac.bs M9 (parts := [(0, .const (.int .u64 1)), (1, .const (.int .u64 0))]) (l := u64V [1, 0]) rfl rfl (LitS.ones el67 (u64V [1, 0]) (fun v hv => by simp [u64V] at hv; rcases hv with rfl | rfl <;> rfl) (by decide))) ?_; rintro v11 w11 ⟨gs, rfl, hg11, K11, M11⟩
  refine WL.ac rfl rfl rfl (Ac.call rfl Tryd.func31 nm31 rfl (make_ok w11 g gl ge 1 2 2 vs2 [h1_, h2_] (some ⟨gs, 0, none⟩) [1, 0] (M11.get (i := 2) rfl) (M11.get (i := 1) rfl) hs (by decide) (by decide) (by decide) (hT.keep M11.keep) (M11.rdw (i := 0) rfl) (gv_lt (by simp) (by decide)) (by decide))) ?_; rintro v12 w12 ⟨va1, vb1, e1, zs1, hs1, rfl, N12, hq1⟩
  have M12 := (M11.new N12).openS
  rw [if_neg (by decide), if_neg (by decide), if_neg (by decide)] at hq1
  obtain ⟨he, hri, hqs⟩ := hq1
  subst he
  obtain rfl := rise10 hri
  subst hqs
  obtain ⟨Aa1, ca1, rfl⟩ := own_slice (M12.get (i := 0) rfl)
  obtain ⟨Ab1, cb1, rfl⟩ := own_slice (M12.get (i := 1) rfl)
  refine qA ?_
  refine WL.ex rfl rfl rfl (Ex.ext rfl rfl) ?_
  refine WL.ex rfl rfl rfl (Ex.ext rfl rfl) ?_
  refine WL.ac rfl rfl rfl (Ac.alloc M12 (l := [.slice none 0 0, .slice none 0 0]) (by kernel_rfl)) ?_; rintro v16 w16 ⟨gb, rfl, hg16, K16, M16⟩
  refine WL.ac0 rfl rfl (Ac.stA M16 ty72 rfl rfl (vs := [.slice Aa1 (List.length [0, 1]) ca1, .slice Ab1 (List.length (sibs (fun l i => (tNode 1 [h1_, h2_] 2 l i).1) 1 0 [0, 1])) cb1]) rfl rfl (by intro u hu; simp at hu; rcases hu with rfl | rfl <;> rfl) (i := 0) rfl (by simp)) ?_; rintro v17 w17 ⟨K17, M17⟩
  try dsimp only [List.set] at M17
  try dsimp only [List.set] at M17
  rw [splice_all _ _ (by simp)] at M17
  refine qB ?_
  refine qE ?_
  refine qD ?_
  refine qA ?_
  refine WL.ac rfl rfl rfl (Ac.bs M17 (parts := [(0, .const (.int .u64 0))]) (l := u64V [0]) rfl rfl (LitS.one el67 rfl)) ?_; rintro v20 w20 ⟨gs2, rfl, hg20, K20, M20⟩
  refine WL.ac rfl rfl rfl (Ac.call rfl Tryd.func31 nm31 rfl (make_ok w20 g gl ge 1 2 1 vs2 [h1_, h2_] (some ⟨gs2, 0, none⟩) [0] (M20.get (i := 6) rfl) (M20.get (i := 5) rfl) hs (by decide) (by decide) (by decide) (hT.keep M20.keep) (M20.rdw (i := 0) rfl) (gv_lt (by simp) (by decide)) (by decide))) ?_; rintro v21 w21 ⟨va2, vb2, e2, zs2, hs2, rfl, N21, hq2⟩
  have M21 := (M20.new N21).openS
  rw [if_neg (by decide), if_neg (by decide), if_neg (by decide)] at hq2
  obtain ⟨he, hri, hqs⟩ := hq2
  subst he
  obtain rfl := rise0 hri
  rw [sib_h2] at hqs
  subst hqs
  obtain ⟨Aa2, ca2, rfl⟩ := own_slice (M21.get (i := 0) rfl)
  obtain ⟨Ab2, cb2, rfl⟩ := own_slice (M21.get (i := 1) rfl)
  refine qA ?_
  refine WL.ex rfl rfl rfl (Ex.ext rfl rfl) ?_
  refine WL.ex rfl rfl rfl (Ex.ext rfl rfl) ?_
  refine WL.ac rfl rfl rfl (Ac.alloc M21 (l := [.slice none 0 0, .slice none 0 0]) (by kernel_rfl)) ?_; rintro v25 w25 ⟨gc, rfl, hg25, K25, M25⟩
  refine WL.ac0 rfl rfl (Ac.stA M25 ty72 rfl rfl (vs := [.slice Aa2 (List.length [0]) ca2, .slice Ab2 (List.length [h2_]) cb2]) rfl rfl (by intro u hu; simp at hu; rcases hu with rfl | rfl <;> rfl) (i := 0) rfl (by simp)) ?_; rintro v26 w26 ⟨K26, M26⟩
  try dsimp only [List.set] at M26
  try dsimp only [List.set] at M26
  rw [splice_all _ _ (by simp)] at M26
  refine qB ?_
  refine qE ?_
  refine qD ?_
  obtain ⟨gh, rfl⟩ := own_some (M26.get (i := 2) rfl) (by decide)
  refine qA ?_
  refine WL.ex rfl rfl rfl (Ex.eqIt rfl rfl rfl) ?_
  refine qA ?_
  refine WL.yes rfl rfl rfl rfl ?_
  refine qA ?_
  refine WL.yes rfl rfl rfl rfl ?_
  refine WL.ex rfl rfl rfl (Ex.eqIt rfl rfl rfl) ?_
  refine WL.ex rfl rfl rfl (Ex.pickT rfl rfl) ?_
  refine qA ?_
  refine WL.yes rfl rfl rfl rfl ?_
  refine WL.ex rfl rfl rfl (Ex.fa fl72_0 rfl) ?_
  refine WL.yes rfl rfl rfl rfl ?_
  refine WL.ex rfl rfl rfl (Ex.load ty67 rfl (M26.cell (i := 4) rfl rfl)) ?_
  refine WL.yes rfl rfl rfl rfl ?_
  refine WL.ex rfl rfl rfl (Ex.len Tryd.underlying67 rfl) ?_
  refine WL.yes rfl rfl rfl rfl ?_
  refine WL.ex rfl rfl rfl (Ex.eqIt rfl rfl rfl) ?_
  refine WL.ex rfl rfl rfl (Ex.pickT rfl rfl) ?_
  refine qA ?_
  refine WL.yes rfl rfl rfl rfl ?_
  refine WL.ex rfl rfl rfl (Ex.fa fl72_1 rfl) ?_
  refine WL.yes rfl rfl rfl rfl ?_
  refine WL.ex rfl rfl rfl (Ex.load ty39 rfl (M26.cell (i := 4) rfl rfl)) ?_
  refine WL.yes rfl rfl rfl rfl ?_
  refine WL.ex rfl rfl rfl (Ex.len Tryd.underlying39 rfl) ?_
  refine WL.yes rfl rfl rfl rfl ?_
  refine WL.ex rfl rfl rfl (Ex.eqIt rfl rfl rfl) ?_
  refine WL.ex rfl rfl rfl (Ex.pickT rfl rfl) ?_
  refine qA ?_
  refine WL.yes rfl rfl rfl rfl ?_
  refine WL.ex rfl rfl rfl (Ex.fa fl72_1 rfl) ?_
  refine WL.yes rfl rfl rfl rfl ?_
  refine WL.ex rfl rfl rfl (Ex.load ty39 rfl (M26.cell (i := 0) rfl rfl)) ?_
  refine WL.yes rfl rfl rfl rfl ?_
  refine WL.ex rfl rfl rfl (Ex.len Tryd.underlying39 rfl) ?_
  refine WL.yes rfl rfl rfl rfl ?_
  refine WL.ex rfl rfl rfl (Ex.eqIt rfl rfl rfl) ?_
  refine WL.ex rfl rfl rfl (Ex.pickT rfl rfl) ?_
  refine qA ?_
  refine WL.yes rfl rfl rfl rfl ?_
  refine WL.ex rfl rfl rfl (Ex.fa fl72_1 rfl) ?_
  refine WL.yes rfl rfl rfl rfl ?_
  refine WL.ex rfl rfl rfl (Ex.load ty39 rfl (M26.cell (i := 0) rfl rfl)) ?_
  refine WL.yes rfl rfl rfl rfl ?_
  refine WL.ex rfl rfl rfl (Ex.ia Tryd.underlying39 sz31 rfl rfl ⟨by decide, by decide⟩) ?_
  refine WL.yes rfl rfl rfl rfl ?_
  refine WL.ex rfl rfl rfl (Ex.loadA ty31 rfl (l := bytesV h2_) rfl (fl_at (i := 0) (l := [h2_]) (M26.rdr (i := 2) rfl) (by intro a ha; obtain rfl : a = h2_ := (by simpa using ha); exact h2_32) rfl rfl)) ?_
  refine WL.yes rfl rfl rfl rfl ?_
  refine WL.ex rfl rfl rfl (Ex.bldS bd31 (parts := [(0, .const (.int .u8 2))]) [[.int .u8 2]] (l := bytesV h2_) rfl rfl rfl ⟨0, 1, rfl, rfl, rfl, by simp, rfl⟩) ?_
  refine WL.yes rfl rfl rfl rfl ?_
  refine WL.ex rfl rfl rfl (Ex.eqA rfl rfl (eqHash w h2_32 h2_32)) ?_
  rw [decide_eq_true rfl]
  refine WL.ex rfl rfl rfl (Ex.pickT rfl rfl) ?_
  refine qB ?_
  refine qE ?_
  refine WC.ret ?_
  refine WX.ret1 rfl rfl ?_
  exact ⟨rfl, M26.keep⟩

theorem _root_.Go.Sx.Ex.min3 {P : Program} {n : Nat} {env : Env} {w : World} {dst : Option Nat} {ty : TypeId} {pos : String} {aft : Array Edge} {g : Option (Nat × Bool)} {x y z : Operand} {ts : Array TypeId} {k k' k'' : IntKind} {p q r c : Int} (hx : ev env x = some (.int k p)) (hy : ev env y = some (.int k' q)) (hz : ev env z = some (.int k'' r)) (hc : (if r < (if q < p then q else p) then r else (if q < p then q else p)) = c) :
    Ex P n env (Oper.mk dst (.call { callee := .builtin .min, args := #[x, y, z], argTypes := ts }) ty pos aft g) (.int k c) w := by
  unfold Ex
  intro a ha
  subst hc
  simp [execOp, resolve, invoke, builtin, ha.eval hx, ha.eval hy, ha.eval hz, Builtin.min_, Builtin.min2]

/- sponsion/sponsionlaw33.made -/
theorem made33_ok (w : World) (x : Nat) (A : Option Addr) (c : Nat) (ls0 : Hs) (hx : x < 256) (hr0 : Rd w A (fl ls0)) (hls0 : ∀ a ∈ ls0, H32 a) (hc : ls0.length ≤ c) (hcm : c ≤ maxLen) (hT : Tabs w) :
    Gives Tryd.prog 30 #[.int .u8 (x : Int), .slice A ls0.length c] w fun u w1 => ∃ g gl ge vs ls, u = .tuple #[.int .i64 ((x % 33 : Nat) : Int), .slice A (List.length ls) c, .pointer (some ⟨g, 0, none⟩)] ∧ ls = ls0.take (min (min ls0.length 20) (2 ^ (x % 33))) ∧ New w w1 (newR g gl ge (x % 33) vs (lvOf dNode e0 (x % 33) ls)) := by
  have M0 := Mem.start w nof
  obtain ⟨d, hd⟩ : ∃ d, d = x % 33 := ⟨_, rfl⟩
  rw [← hd]
  have hd32 : d ≤ 32 := by omega
  unfold maxLen at hcm
  obtain ⟨m, hm⟩ : ∃ m, m = min ls0.length 20 := ⟨_, rfl⟩
  obtain ⟨q, hq⟩ : ∃ q, q = min m (2 ^ d) := ⟨_, rfl⟩
  have hp2 := pow32 hd32
  obtain ⟨ls, hlse⟩ : ∃ ls, ls = ls0.take q := ⟨_, rfl⟩
  have hlq : ls.length = q := by rw [hlse, List.length_take]; omega
  have hls32 : ∀ a ∈ ls, H32 a := by rw [hlse]; exact take32 hls0 q
  have hr : Rd w A (fl ls) := by rw [hlse, fl_take hls0]; exact hr0.take _
  have hn : ls.length ≤ 2 ^ d := by omega
  have hb : ls.length ≤ 1000000 := by omega
  refine Gives.enter (n := 38) Tryd.func30 rfl Tryd.ntmps30 rfl (env := [(0, .int .u8 (x : Int)), (1, .slice A ls0.length c)]) rfl ?_
  refine qD ?_
  refine qB ?_
  refine qB ?_
  refine qB ?_
  refine qE ?_
  refine qD ?_
  refine qA ?_
  refine WL.ex rfl rfl rfl (Ex.rem rfl rfl (by decide) (c := ((d : Nat) : Int)) (by rw [hd]; exact tmodT _ 33)) ?_
  refine WL.ex rfl rfl rfl (Ex.cvI Tryd.underlying5 Tryd.underlying3 rfl (i64w _ (by omega) (by omega))) ?_
  refine qB ?_
  refine qE ?_
  refine qD ?_
  refine qA ?_
  refine qA ?_
  refine WL.ex rfl rfl rfl (Ex.len Tryd.underlying39 rfl) ?_
  refine WL.ex rfl rfl rfl (Ex.cvI (c := ((ls0.length : Nat) : Int)) Tryd.underlying3 Tryd.underlying23 rfl (u64w_lt _ (by omega))) ?_
  refine qA ?_
  refine WL.ac rfl rfl rfl (Ac.call rfl Tryd.func36 nm36 rfl (places_ok w d 0 hd32 (by decide))) ?_; rintro v13 w13 ⟨rfl, K13⟩
  rw [places_0]
  have M13 := M0.step K13
  refine WL.ex rfl rfl rfl (Ex.min3 rfl rfl rfl (c := ((q : Nat) : Int)) (by split <;> split <;> omega)) ?_
  refine WL.ex rfl rfl rfl (Ex.slh Tryd.underlying39 sz31 rfl rfl (Int.natCast_nonneg _) (by omega)) ?_
  rw [Int.toNat_natCast, ← hlq]
  refine qB ?_
  refine qE ?_
  refine qD ?_
  refine qA ?_
  refine WL.ac rfl rfl rfl (Ac.call rfl Tryd.func42 nm42 rfl (tNew_ok w13 d hd32 (hT.keep M13.keep))) ?_; rintro v18 w18 ⟨g, gl, ge, rfl, N18⟩
  have M18 := (M13.new N18).openS
  refine qB ?_
  refine qE ?_
  refine WC.seq ?_
  refine qD ?_
  refine qA ?_
  refine WL.ex rfl rfl rfl (Ex.len Tryd.underlying39 rfl) ?_
  refine qA ?_
  refine qE ?_
  refine WC.block ?_
  refine WC.loop (σ := Nat × List Value) (fun s => [(7, .int .i64 (d : Int)), (8, .slice A (List.length ls) c), (9, .pointer (some ⟨g, 0, none⟩)), (25, .slice A (List.length ls) c), (26, .int .i64 (List.length ls : Int)), (27, .int .i64 (s.1 : Int))]) (fun s wr => s.1 ≤ ls.length ∧ Mem w wr nof [blk ge (fl (emps dNode e0 (d + 1))) 31, treeR g gl ge d s.2 (lvOf dNode e0 d (ls.take s.1))]) (fun s => ls.length - s.1) (((0, nilS (d + 1)) : Nat × List Value)) ?_ (.cons rfl (.cons rfl (.cons rfl (.cons rfl (.cons rfl (.cons rfl (.nil))))))) ?_
  · exact ⟨by simp, M18⟩
  rintro ⟨i, va⟩ w23 ⟨hi, M23⟩
  dsimp only at hi M23
  refine WC.sub (env' := [(7, .int .i64 (d : Int)), (8, .slice A (List.length ls) c), (9, .pointer (some ⟨g, 0, none⟩)), (25, .slice A (List.length ls) c), (26, .int .i64 (List.length ls : Int)), (27, .int .i64 (i : Int))]) (.cons rfl (.cons rfl (.cons rfl (.cons rfl (.cons rfl (.cons rfl (.nil))))))) ?_
  refine qD ?_
  refine WL.ex rfl rfl rfl (Ex.lss rfl rfl) ?_
  refine qE ?_
  refine WC.seq ?_
  refine WC.cond_dec rfl (fun hc28 => ?_) (fun hc28 => ?_)
  · obtain ⟨p, hpi⟩ : ∃ p, ls[i]? = some p := ⟨_, List.getElem?_eq_getElem (by omega)⟩
    have hpm := List.mem_of_getElem? hpi
    have hp32 := hls32 p hpm
    have htkp := take_snoc hpi
    obtain ⟨bp, op, hpA, _⟩ := hr.plain (by rw [fl_len hls32]; omega)
    subst hpA
    have hti : (ls.take i).length < 2 ^ d := by rw [List.length_take]; omega
    refine WC.skip ?_
    refine WX.next ?_
    refine WC.seq ?_
    refine WC.block ?_
    refine qD ?_
    refine WL.ex rfl rfl rfl (Ex.ia Tryd.underlying39 sz31 rfl rfl ⟨by omega, by omega⟩) ?_
    refine WL.ex rfl rfl rfl (Ex.loadA ty31 rfl (l := bytesV p) (by simpa using hp32) (fl_at (hr.keep0 M23.keep) hls32 hpi (by simp))) ?_
    refine WL.ac rfl rfl rfl (Ac.alloc M23 (l := bytesV (List.replicate 32 0)) (by kernel_rfl)) ?_; rintro v27 w27 ⟨gp, rfl, hg27, K27, M27⟩
    refine WL.ac0 rfl rfl (Ac.stA M27 ty31 rfl rfl rfl (h32_len (by first | assumption | exact h32_0)) (bytesV_one _) (i := 0) rfl (by first | (rw [h32_len (by first | assumption | exact h32_0), h32_len (by first | assumption | exact h32_0)]; decide) | (rw [h32_len (by first | assumption | exact h32_0)]; decide) | rw [h32_len (by first | assumption | exact h32_0)])) ?_; rintro v28 w28 ⟨K28, M28⟩
    try dsimp only [List.set] at M28
    rw [splice_all _ _ (by first | rw [h32_len (by first | assumption | exact h32_0), h32_len (by first | assumption | exact h32_0)] | rw [h32_len (by first | assumption | exact h32_0)])] at M28
    refine qE ?_
    refine WC.region ?_
    refine qA ?_
    refine WL.ex rfl rfl rfl (Ex.loadA ty31 rfl (h32_len (by first | assumption | exact h32_0)) (M28.rdw (i := 0) rfl)) ?_
    refine WL.ac rfl rfl rfl (Ac.call rfl Tryd.func54 nm54 rfl (tAppend_ok w28 g gl ge d va (ls.take i) p (M28.get (i := 2) rfl) (take32 hls32 i) hp32 hd32 (hT.keep M28.keep) (M28.tabF hT 2 rfl))) ?_; rintro v31 w31 ⟨va1, rfl, T31⟩
    rw [tApp_c hti, ← htkp] at T31
    rw [tApp_a hti, tApp_b hti]
    have M31 := M28.turned (i := 2) rfl T31
    try dsimp only [List.set] at M31
    refine WL.nil ?_
    refine WX.normal_block (WX.next (?_))
    refine WC.region ?_
    refine WL.ex rfl rfl rfl (Ex.add rfl rfl (i64w _ (by omega) (by omega))) ?_
    refine qA ?_
    refine WL.nil ?_
    refine WX.again (((i + 1, va1) : Nat × List Value)) ?_ ?_ (.cons rfl (.cons rfl (.cons rfl (.cons rfl (.cons rfl (.cons rfl (.nil)))))))
    · dsimp only; omega
    · exact ⟨by dsimp only; omega, (Mem.sub M31 (.cons _ (.refl _)))⟩
  · obtain rfl : i = ls.length := by omega
    rw [List.take_length] at M23
    refine WC.exit ?_
    refine WX.exit_then (WX.exit_then (WX.exit_block (WX.next (?_))))
    refine qD ?_
    refine qA ?_
    refine qA ?_
    refine qA ?_
    refine qB ?_
    refine qB ?_
    refine qB ?_
    refine qE ?_
    refine WC.ret ?_
    refine WX.ret3 rfl rfl rfl rfl ?_
    exact ⟨g, gl, ge, _, ls, rfl, by rw [← hm, ← hq]; exact hlse, (Mem.closeS M23).toNew⟩

end Go.Proofs.YtchmjpdkonfifaaDoor
