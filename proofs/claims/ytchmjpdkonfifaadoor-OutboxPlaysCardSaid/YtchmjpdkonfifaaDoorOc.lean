/- Walks, written by gen.py off the translation's own print: each says what the Go function comes to. -/
import Derived.Test.YtchmjpdkonfifaaDoorOb
set_option linter.unusedVariables false
set_option linter.unusedSimpArgs false
namespace Go.Proofs.YtchmjpdkonfifaaDoor
open Go.Sx Go.RowKit
attribute [local irreducible] Ac Ex WL WC WX WP Gives sha

structure Ac9 where
  kind : Nat
  x : Itt
  n : Nat
instance : DecidableEq Ac9 := fun x y => decidable_of_iff (x.kind = y.kind ∧ x.x = y.x ∧ x.n = y.n) (by cases x; cases y; simp)
def ac9C (t : Ac9) : List Value := [.int .u8 (t.kind : Int)] ++ (ittC t.x ++ ([.int .u64 (t.n : Int)]))
structure Ac9Ok (t : Ac9) : Prop where
  kind : t.kind < 256
  x : IttOk t.x
  n : t.n < 18446744073709551616
def ac90 : Ac9 := ⟨0, itt0, 0⟩
theorem ac90_ok : Ac9Ok ac90 := ⟨by decide, itt0_ok, by decide⟩
theorem ac9_len {t : Ac9} (h : Ac9Ok t) : (ac9C t).length = 9 := by simp [ac9C, itt_len h.x]
theorem ac9_one {t : Ac9} : ∀ u ∈ ac9C t, u.oneCell' = true := by
  intro u hu
  simp only [ac9C, List.mem_append, List.mem_cons, List.not_mem_nil, or_false] at hu
  rcases hu with rfl | hu | rfl
  · rfl
  · exact itt_one u hu
  · rfl
theorem ac9_g0 {t : Ac9} (h : Ac9Ok t) : (ac9C t)[0]? = some (.int .u8 (t.kind : Int)) := by
  have e : ac9C t = (([] : List Value)) ++ ([.int .u8 (t.kind : Int)] ++ (ittC t.x ++ ([.int .u64 (t.n : Int)]))) := by simp only [ac9C, List.append_assoc, List.nil_append, List.append_nil]
  rw [e]
  exact cell_at (by simp [itt_len h.x])
theorem ac9_s0 {t : Ac9} (h : Ac9Ok t) (x : Nat) : (ac9C t).set 0 (.int .u8 (x : Int)) = ac9C { t with kind := x } := by
  have e : ac9C t = (([] : List Value)) ++ ([.int .u8 (t.kind : Int)] ++ (ittC t.x ++ ([.int .u64 (t.n : Int)]))) := by simp only [ac9C, List.append_assoc, List.nil_append, List.append_nil]
  rw [e, set_at (by simp [itt_len h.x])]
  simp only [ac9C, List.append_assoc, List.nil_append, List.append_nil]
theorem ac9_g1 {t : Ac9} (h : Ac9Ok t) : ((ac9C t).drop 1).take 7 = ittC t.x := by
  have e : ac9C t = ([.int .u8 (t.kind : Int)]) ++ (ittC t.x ++ ([.int .u64 (t.n : Int)])) := by simp only [ac9C, List.append_assoc, List.nil_append, List.append_nil]
  rw [e]
  exact seg_at (by simp [itt_len h.x]) (itt_len h.x)
theorem ac9_s1 {t : Ac9} (h : Ac9Ok t) {x : Itt} (hx : IttOk x) : splice (ac9C t) 1 (ittC x) = ac9C { t with x := x } := by
  have e : ac9C t = ([.int .u8 (t.kind : Int)]) ++ (ittC t.x ++ ([.int .u64 (t.n : Int)])) := by simp only [ac9C, List.append_assoc, List.nil_append, List.append_nil]
  rw [e, splice_at (by simp [itt_len h.x]) (by rw [itt_len h.x, itt_len hx])]
  simp only [ac9C, List.append_assoc, List.nil_append, List.append_nil]
theorem ac9_g8 {t : Ac9} (h : Ac9Ok t) : (ac9C t)[8]? = some (.int .u64 (t.n : Int)) := by
  have e : ac9C t = ([.int .u8 (t.kind : Int)] ++ (ittC t.x)) ++ ([.int .u64 (t.n : Int)] ++ (([] : List Value))) := by simp only [ac9C, List.append_assoc, List.nil_append, List.append_nil]
  rw [e]
  exact cell_at (by simp [itt_len h.x])
theorem ac9_s8 {t : Ac9} (h : Ac9Ok t) (x : Nat) : (ac9C t).set 8 (.int .u64 (x : Int)) = ac9C { t with n := x } := by
  have e : ac9C t = ([.int .u8 (t.kind : Int)] ++ (ittC t.x)) ++ ([.int .u64 (t.n : Int)] ++ (([] : List Value))) := by simp only [ac9C, List.append_assoc, List.nil_append, List.append_nil]
  rw [e, set_at (by simp [itt_len h.x])]
  simp only [ac9C, List.append_assoc, List.nil_append, List.append_nil]
theorem ac9C_inj {x y : Ac9} (hx : Ac9Ok x) (hy : Ac9Ok y) (h : ac9C x = ac9C y) : x = y := by
  have e0 := (ac9_g0 hx).symm.trans ((by rw [h] : (ac9C x)[0]? = (ac9C y)[0]?).trans (ac9_g0 hy))
  simp only [Option.some.injEq, Value.int.injEq, Value.bool.injEq, true_and] at e0
  have e10 := (ac9_g1 hx).symm.trans ((by rw [h] : ((ac9C x).drop 1).take 7 = ((ac9C y).drop 1).take 7).trans (ac9_g1 hy))
  have e1 := (fun e => ittC_inj e) e10
  have e2 := (ac9_g8 hx).symm.trans ((by rw [h] : (ac9C x)[8]? = (ac9C y)[8]?).trans (ac9_g8 hy))
  simp only [Option.some.injEq, Value.int.injEq, Value.bool.injEq, true_and] at e2
  clear h hx hy
  cases x; cases y
  simp only at *
  rw [Ac9.mk.injEq]
  exact ⟨by omega, e1, by omega⟩
abbrev ac9K : List CK := [.int .u8] ++ (ittK ++ ([.int .u64]))
theorem oks_ac9 {w : World} {t : Ac9} (h : Ac9Ok t) : CK.oks w ac9K (ac9C t) := by
  unfold ac9C
  exact (CK.oks_append w _ _ _ _ (oks_one_u8 h.kind) (CK.oks_append w _ _ _ _ (oks_itt h.x) (oks_one_u64 h.n)))
theorem ac9_view {w : World} : ∀ vs, CK.oks w ac9K vs → ∃ t, vs = ac9C t ∧ Ac9Ok t := by
  intro vs h
  obtain ⟨⟨x0, ⟨x1, x2⟩⟩, e, ⟨p0, ⟨p1, p2⟩⟩⟩ := (view_app (view_one (f := fun n : Nat => (.int .u8 (n : Int) : Value)) v_u8) (view_app itt_view (view_one (f := fun n : Nat => (.int .u64 (n : Int) : Value)) v_u64))) vs h
  exact ⟨⟨x0, x1, x2⟩, e, ⟨p0, p1, p2⟩⟩

theorem nest_seg {l m s : List Value} {o n k j : Nat} (h1 : (l.drop o).take n = m) (h2 : (m.drop k).take j = s) (hk : k + j ≤ n) : (l.drop (o + k)).take j = s := by
  rw [← h2, ← h1, List.drop_take, List.take_take, List.drop_drop, Nat.min_eq_left (by omega)]
theorem act_am {a : Ac9} (h : Ac9Ok a) : ((ac9C a).drop 4).take 4 = intV a.x.am := nest_seg (o := 1) (k := 3) (ac9_g1 h) (itt_g3 h.x) (by decide)
theorem rd_far {w w1 : World} {rs : List Res} {r : Res} (M : Mem w w1 nof rs) (i : Nat) (hi : rs[i]? = some r) {B : Option Addr} {xs : List Value} (hr : Rd w B xs) (hx : 0 < xs.length) : ∀ b, B = some b → b.block ∉ r.fp := by
  intro b hb hm
  obtain ⟨g, o, h1, h2, _⟩ := hr.plain hx
  rw [hb] at h1
  injection h1 with h1
  subst h1
  rcases M.own r (List.mem_of_getElem? hi) _ hm with h | h
  · dsimp only at h
    omega
  · exact h
def x0_ : Itt := ⟨0, 0, 1, [5, 0, 0, 0]⟩
def x1_ : Itt := ⟨1, 0, 1, [5, 0, 0, 0]⟩
theorem x0_ok : IttOk x0_ := ⟨by decide, by decide, by decide, int4mk rfl (by decide)⟩
theorem x1_ok : IttOk x1_ := ⟨by decide, by decide, by decide, int4mk rfl (by decide)⟩
theorem x0_may : mayI x0_ := ⟨by decide, by decide, by decide⟩
theorem x1_may : mayI x1_ := ⟨by decide, by decide, by decide⟩
theorem x0_nx : nxI ⟨([] : List Itt).length, 0, 1, [5, 0, 0, 0]⟩ = (x0_, 0) := if_pos x0_may
theorem x1_nx : nxI ⟨[x0_].length, 0, 1, [5, 0, 0, 0]⟩ = (x1_, 0) := if_pos x1_may

/- sponsion/sponsionlaw19.lives -/
theorem lives19_ok (w : World) (hT : Tabs w) :
    Gives Tryd.prog 10 #[] w fun u w1 => u = .bool true ∧ Keep nof w w1 := by
  have M0 := Mem.start w nof
  have h0o := x0_ok
  have h1o := x1_ok
  refine Gives.enter (n := 50) Tryd.func10 rfl Tryd.ntmps10 rfl (env := []) rfl ?_
  refine WC.seq ?_
  refine WC.region ?_
  refine WL.ex rfl rfl rfl (Ex.asg rfl) ?_
  refine WL.nil ?_
  refine WX.next (?_)
  refine WC.seq ?_
  refine WC.region ?_
  refine WL.ac rfl rfl rfl (Ac.call rfl Tryd.func11 nm11 rfl (oNew_ok w (hT.keep M0.keep))) ?_; rintro v2 w2 ⟨go, gt, gl, ge, rfl, N2⟩
  have M2 := (M0.new N2).openS
  refine WL.ex rfl rfl rfl (Ex.asg rfl) ?_
  refine WL.nil ?_
  refine WX.next (?_)
  refine WC.seq ?_
  refine WC.seq ?_
  refine WC.region ?_
  refine WL.ex rfl rfl rfl (Ex.mv rfl) ?_
  refine WL.ex rfl rfl rfl (Ex.eqPn Tryd.underlying25 rfl) ?_
  refine WL.nil ?_
  refine WX.next (?_)
  refine WC.no rfl ?_
  refine WC.skip ?_
  refine WX.next (?_)
  refine WC.seq ?_
  refine WC.region ?_
  refine WL.ex rfl rfl rfl (Ex.mv rfl) ?_
  refine WL.ex rfl rfl rfl (Ex.bldS bd48 (parts := [(0, .const (.int .u64 5))]) [[.int .u64 5]] (l := intV [5, 0, 0, 0]) rfl rfl rfl ⟨0, 1, rfl, rfl, rfl, by simp, rfl⟩) ?_
  refine WL.ac rfl rfl rfl (Ac.call rfl Tryd.func23 nm23 rfl (oNext_ok w2 go gt gl ge (nilS 33) none 0 [] 0 1 [5, 0, 0, 0] (OxS.of (M2.get (i := 0) rfl)) (by decide) (by decide) (by decide) (int4mk rfl (by decide)))) ?_; rintro v8 w8 ⟨rfl, K8⟩
  rw [x0_nx]
  dsimp only
  have M8 := M2.step K8
  refine WL.ex rfl rfl rfl (Ex.mv rfl) ?_
  refine WL.ex rfl rfl rfl (Ex.ext rfl rfl) ?_
  refine WL.ex rfl rfl rfl (Ex.ext rfl rfl) ?_
  refine WL.ac rfl rfl rfl (Ac.alloc M8 (l := ittC itt0) (by kernel_rfl)) ?_; rintro v12 w12 ⟨gx, rfl, hg12, K12, M12⟩
  refine WL.ac0 rfl rfl (Ac.stA M12 ty50 rfl rfl rfl (itt_len (by first | assumption | exact itt0_ok)) itt_one (i := 0) rfl (by first | (rw [itt_len (by first | assumption | exact itt0_ok), itt_len (by first | assumption | exact itt0_ok)]; decide) | (rw [itt_len (by first | assumption | exact itt0_ok)]; decide) | rw [itt_len (by first | assumption | exact itt0_ok)])) ?_; rintro v13 w13 ⟨K13, M13⟩
  try dsimp only [List.set] at M13
  rw [splice_all _ _ (by first | rw [itt_len (by first | assumption | exact itt0_ok), itt_len (by first | assumption | exact itt0_ok)] | rw [itt_len (by first | assumption | exact itt0_ok)])] at M13
  refine WL.ex rfl rfl rfl (Ex.asg rfl) ?_
  refine WL.nil ?_
  refine WX.next (?_)
  refine WC.seq ?_
  refine WC.region ?_
  refine WL.ex rfl rfl rfl (Ex.mv rfl) ?_
  refine WL.ex rfl rfl rfl (Ex.loadA ty50 rfl (itt_len (by first | assumption | exact itt0_ok)) (M13.rdw (i := 0) rfl)) ?_
  refine WL.ac rfl rfl rfl (Ac.call rfl Tryd.func24 nm24 rfl (oAdd_ok w13 go gt gl ge (nilS 33) none 0 [] x0_ (M13.get (i := 1) rfl) x0_ok (by simp) (by decide) (hT.keep M13.keep) (M13.tabF hT 1 rfl))) ?_; rintro v17 w17 ⟨vs1, A1, c1, rfl, T17⟩
  rw [(ad_0 (its := []) x0_may rfl).2, List.nil_append] at T17
  rw [(ad_0 (its := []) x0_may rfl).1]
  have M17 := M13.turned (i := 1) rfl T17
  try dsimp only [List.set] at M17
  refine WL.ex rfl rfl rfl (Ex.asg rfl) ?_
  refine WL.nil ?_
  refine WX.next (?_)
  refine WC.seq ?_
  refine WC.region ?_
  refine WL.ex rfl rfl rfl (Ex.mv rfl) ?_
  refine WL.ex rfl rfl rfl (Ex.bldS bd48 (parts := [(0, .const (.int .u64 5))]) [[.int .u64 5]] (l := intV [5, 0, 0, 0]) rfl rfl rfl ⟨0, 1, rfl, rfl, rfl, by simp, rfl⟩) ?_
  refine WL.ac rfl rfl rfl (Ac.call rfl Tryd.func23 nm23 rfl (oNext_ok w17 go gt gl ge vs1 A1 c1 [x0_] 0 1 [5, 0, 0, 0] (OxS.of (M17.get (i := 1) rfl)) (by decide) (by decide) (by decide) (int4mk rfl (by decide)))) ?_; rintro v21 w21 ⟨rfl, K21⟩
  rw [x1_nx]
  dsimp only
  have M21 := M17.step K21
  refine WL.ex rfl rfl rfl (Ex.mv rfl) ?_
  refine WL.ex rfl rfl rfl (Ex.ext rfl rfl) ?_
  refine WL.ex rfl rfl rfl (Ex.ext rfl rfl) ?_
  refine WL.ac rfl rfl rfl (Ac.alloc M21 (l := ittC itt0) (by kernel_rfl)) ?_; rintro v25 w25 ⟨gy, rfl, hg25, K25, M25⟩
  refine WL.ac0 rfl rfl (Ac.stA M25 ty50 rfl rfl rfl (itt_len (by first | assumption | exact itt0_ok)) itt_one (i := 0) rfl (by first | (rw [itt_len (by first | assumption | exact itt0_ok), itt_len (by first | assumption | exact itt0_ok)]; decide) | (rw [itt_len (by first | assumption | exact itt0_ok)]; decide) | rw [itt_len (by first | assumption | exact itt0_ok)])) ?_; rintro v26 w26 ⟨K26, M26⟩
  try dsimp only [List.set] at M26
  rw [splice_all _ _ (by first | rw [itt_len (by first | assumption | exact itt0_ok), itt_len (by first | assumption | exact itt0_ok)] | rw [itt_len (by first | assumption | exact itt0_ok)])] at M26
  refine WL.ex rfl rfl rfl (Ex.asg rfl) ?_
  refine WL.nil ?_
  refine WX.next (?_)
  refine WC.seq ?_
  refine WC.region ?_
  refine WL.ex rfl rfl rfl (Ex.mv rfl) ?_
  refine WL.ex rfl rfl rfl (Ex.eqI rfl rfl) ?_
  rw [decide_eq_true rfl]
  refine WL.ex rfl rfl rfl (Ex.mv rfl) ?_
  refine WL.yes rfl rfl rfl rfl ?_
  refine WL.ex rfl rfl rfl (Ex.mv rfl) ?_
  refine WL.yes rfl rfl rfl rfl ?_
  refine WL.ex rfl rfl rfl (Ex.eqI rfl rfl) ?_
  rw [decide_eq_true rfl]
  refine WL.ex rfl rfl rfl (Ex.pickT rfl rfl) ?_
  refine WL.ex rfl rfl rfl (Ex.mv rfl) ?_
  refine WL.yes rfl rfl rfl rfl ?_
  refine WL.ex rfl rfl rfl (Ex.mv rfl) ?_
  refine WL.yes rfl rfl rfl rfl ?_
  refine WL.ex rfl rfl rfl (Ex.eqI rfl rfl) ?_
  rw [decide_eq_true rfl]
  refine WL.ex rfl rfl rfl (Ex.pickT rfl rfl) ?_
  refine WL.ex rfl rfl rfl (Ex.mv rfl) ?_
  refine WL.yes rfl rfl rfl rfl ?_
  refine WL.ex rfl rfl rfl (Ex.fa fl50_0 rfl) ?_
  refine WL.yes rfl rfl rfl rfl ?_
  refine WL.ex rfl rfl rfl (Ex.load ty46 rfl (M26.cell (i := 1) rfl (itt_g0 (by first | assumption | exact itt0_ok)))) ?_
  refine WL.yes rfl rfl rfl rfl ?_
  refine WL.ex rfl rfl rfl (Ex.eqI rfl rfl) ?_
  rw [show decide ((x0_.ix : Int) = 0) = true from rfl]
  refine WL.ex rfl rfl rfl (Ex.pickT rfl rfl) ?_
  refine WL.ex rfl rfl rfl (Ex.mv rfl) ?_
  refine WL.yes rfl rfl rfl rfl ?_
  refine WL.ex rfl rfl rfl (Ex.fa fl50_0 rfl) ?_
  refine WL.yes rfl rfl rfl rfl ?_
  refine WL.ex rfl rfl rfl (Ex.load ty46 rfl (M26.cell (i := 0) rfl (itt_g0 (by first | assumption | exact itt0_ok)))) ?_
  refine WL.yes rfl rfl rfl rfl ?_
  refine WL.ex rfl rfl rfl (Ex.eqI rfl rfl) ?_
  rw [show decide ((x1_.ix : Int) = 1) = true from rfl]
  refine WL.ex rfl rfl rfl (Ex.pickT rfl rfl) ?_
  refine WL.ex rfl rfl rfl (Ex.mv rfl) ?_
  refine WL.yes rfl rfl rfl rfl ?_
  refine WL.ex rfl rfl rfl (Ex.mv rfl) ?_
  refine WL.yes rfl rfl rfl rfl ?_
  refine WL.ac rfl rfl rfl (Ac.call rfl Tryd.func25 nm25 rfl (oLen_ok w26 go gt gl ge vs1 A1 c1 [x0_] (OxS.of (M26.get (i := 2) rfl)) (by decide))) ?_; rintro v50 w50 ⟨rfl, K50⟩
  have M50 := M26.step K50
  refine WL.yes rfl rfl rfl rfl ?_
  refine WL.ex rfl rfl rfl (Ex.eqI rfl rfl) ?_
  rw [show decide (([x0_].length : Int) = 1) = true from rfl]
  refine WL.ex rfl rfl rfl (Ex.pickT rfl rfl) ?_
  refine WL.ex rfl rfl rfl (Ex.asg rfl) ?_
  refine WL.nil ?_
  refine WX.next (?_)
  refine WC.ret ?_
  refine WX.ret1 rfl rfl ?_
  exact ⟨rfl, M50.keep⟩

end Go.Proofs.YtchmjpdkonfifaaDoor
