/- Walks, written by gen.py off the translation's own print: each says what the Go function comes to. -/
import Derived.Test.YtchmjpdkonfifaaDoorYp
import Derived.Test.YtchmjpdkonfifaaDoorAl
set_option linter.unusedVariables false
set_option linter.unusedSimpArgs false
namespace Go.Proofs.YtchmjpdkonfifaaDoor
open Go.Sx Go.RowKit
attribute [local irreducible] Ac Ex WL WC WX WP Gives sha

def knC (p : Kn) : List Value := .int .u64 (p.1 : Int) :: bytesV p.2
structure KnOk (p : Kn) : Prop where
  pl : p.1 < 18446744073709551616
  h32 : H32 p.2
def kn0 : Kn := (0, z32)
theorem kn0_ok : KnOk kn0 := ⟨by decide, h32_0⟩
theorem kn_len {p : Kn} (h : KnOk p) : (knC p).length = 33 := by show (bytesV p.2).length + 1 = 33; rw [h32_len h.h32]
theorem kn_one {p : Kn} : ∀ u ∈ knC p, u.oneCell' = true := fun u hu => by
  rcases List.mem_cons.1 hu with rfl | hu
  · rfl
  · exact bytesV_one _ u hu
theorem kns_one (L : List Kn) : ∀ u ∈ L.flatMap knC, u.oneCell' = true := fun u hu => by
  obtain ⟨p, _, h⟩ := List.mem_flatMap.1 hu
  exact kn_one u h
theorem kn_g0 {p : Kn} (h : KnOk p) : (knC p)[0]? = some (.int .u64 (p.1 : Int)) := rfl
theorem kn_g1 {p : Kn} (h : KnOk p) : ((knC p).drop 1).take 32 = bytesV p.2 := by
  show (bytesV p.2).take 32 = _
  rw [← h32_len h.h32, List.take_length]
theorem bldKn {i : Nat} {a : List UInt8} (h : H32 a) :
    okS (fun i => ([(0, 1), (1, 32)] : List (Nat × Nat))[i]?) ([.int .u64 0] ++ bytesV (List.replicate 32 0)) [(0, .int .u64 (i : Int)), (1, .agg (bytesV a).toArray)]
      [[.int .u64 (i : Int)], bytesV a] (knC (i, a)) :=
  ⟨0, 1, rfl, rfl, rfl, by simp, 1, 32, rfl, rfl, by simp [h32_len h], by simp [splice, h32_len h], by show splice _ _ _ = _; simp [splice, knC, h32_len h]⟩
theorem kn_part {w : World} {b o i o2 : Nat} {L : List Kn} {p : Kn} (h : Rd w (some ⟨b, o, none⟩) (L.flatMap knC)) (hok : ∀ p ∈ L, KnOk p) (hp : L[i]? = some p) (ho : o2 = o + i * 33 + 1) : Rd w (some ⟨b, o2, none⟩) (bytesV p.2) := by
  subst ho
  have h1 := Rd.flat h (fun t ht => kn_len (hok t ht)) hp
  exact h1.drop 1

/- sponsion/sponsionref33.find -/
theorem find_ok (w : World) (A : Option Addr) (c : Nat) (L : List Kn) (v : Nat) (hr : Rd w A (L.flatMap knC)) (hok : ∀ p ∈ L, KnOk p) (hb : L.length ≤ 1000) :
    Gives Tryd.prog 75 #[.slice A (List.length L) c, .int .u64 (v : Int)] w fun u w1 => ∃ z : Int, u = .int .i64 z ∧ Keep nof w w1 ∧ ((∃ k p, z = ((k : Nat) : Int) ∧ L[k]? = some p ∧ p.1 = v) ∨ (z = -1 ∧ v ∉ L.map (·.1))) := by
  have M0 := Mem.start w nof
  refine Gives.enter (n := 20) Tryd.func75 rfl Tryd.ntmps75 rfl (env := [(0, .slice A (List.length L) c), (1, .int .u64 (v : Int))]) rfl ?_
  refine qD ?_
  refine qB ?_
  refine qE ?_
  refine WC.seq ?_
  refine qD ?_
  refine qA ?_
  refine WL.ex rfl rfl rfl (Ex.len Tryd.underlying124 rfl) ?_
  refine qA ?_
  refine qE ?_
  refine WC.block ?_
  refine WC.loop (σ := Nat) (fun i => [(1, .int .u64 (v : Int)), (7, .slice A (List.length L) c), (8, .int .i64 (List.length L : Int)), (9, .int .i64 (i : Int))]) (fun i wr => i ≤ List.length L ∧ (∀ k p, k < i → L[k]? = some p → p.1 ≠ v) ∧ Mem w wr nof []) (fun i => List.length L - i) (0) ?_ (.cons rfl (.cons rfl (.cons rfl (.cons rfl (.nil))))) ?_
  · exact ⟨by omega, (fun k p h => by omega), M0⟩
  rintro i w5 ⟨hi, hno, M5⟩
  refine qD ?_
  refine WL.ex rfl rfl rfl (Ex.lss rfl rfl) ?_
  refine qE ?_
  refine WC.seq ?_
  refine WC.cond_dec rfl (fun hc10 => ?_) (fun hc10 => ?_)
  · obtain ⟨p, hpi⟩ : ∃ p, L[i]? = some p := ⟨_, List.getElem?_eq_getElem (by omega)⟩
    have hpo := hok p (List.mem_of_getElem? hpi)
    obtain ⟨b0, o0, hA0⟩ := hr.flat_plain (List.mem_of_getElem? hpi) (by rw [kn_len hpo]; omega)
    subst hA0
    refine WC.skip ?_
    refine WX.next ?_
    refine WC.seq ?_
    refine WC.block ?_
    refine qD ?_
    refine qA ?_
    refine WL.ex rfl rfl rfl (Ex.ia Tryd.underlying124 sz126 rfl rfl ⟨by omega, by omega⟩) ?_
    refine WL.ex rfl rfl rfl (Ex.loadA ty126 rfl (l := knC p) (kn_len hpo) (Rd.flat (M5.rd hr) (i := (i : Int).toNat) (fun t ht => kn_len (hok t ht)) (by simpa using hpi))) ?_
    refine WL.ac rfl rfl rfl (Ac.alloc M5 (l := knC kn0) (by kernel_rfl)) ?_; rintro v10 w10 ⟨gx, rfl, hg10, K10, M10⟩
    refine qB ?_
    refine WL.ac0 rfl rfl (Ac.stA M10 ty126 rfl rfl rfl (kn_len (by first | assumption | exact kn0_ok)) kn_one (i := 0) rfl (by first | (rw [kn_len (by first | assumption | exact kn0_ok), kn_len (by first | assumption | exact kn0_ok)]; decide) | (rw [kn_len (by first | assumption | exact kn0_ok)]; decide) | rw [kn_len (by first | assumption | exact kn0_ok)])) ?_; rintro v12 w12 ⟨K12, M12⟩
    try dsimp only [List.set] at M12
    rw [splice_all _ _ (by first | rw [kn_len (by first | assumption | exact kn0_ok), kn_len (by first | assumption | exact kn0_ok)] | rw [kn_len (by first | assumption | exact kn0_ok)])] at M12
    refine qE ?_
    refine qD ?_
    refine WL.ex rfl rfl rfl (Ex.fa fl126_0 rfl) ?_
    refine WL.ex rfl rfl rfl (Ex.load ty23 rfl (M12.cell (i := 0) rfl (kn_g0 (by first | assumption | exact kn0_ok)))) ?_
    refine qA ?_
    refine WL.ex rfl rfl rfl (Ex.eqI rfl rfl) ?_
    refine qE ?_
    refine WC.cond_dec rfl (fun h17 => ?_) (fun h17 => ?_)
    · skip
      refine qD ?_
      refine qA ?_
      refine qB ?_
      refine qE ?_
      refine WC.ret ?_
      refine WX.ret_block (WX.ret_then (WX.ret_then (WX.ret_block (WX.ret_then (?_)))))
      refine WX.ret1 rfl rfl ?_
      first | exact ⟨_, rfl, M12.keep, .inl ⟨i, p, rfl, hpi, by omega⟩⟩ | exact ⟨_, rfl, M12.keep, .inr ⟨rfl, hnn⟩⟩
    · skip
      refine WC.skip ?_
      refine WX.normal_block (WX.next (?_))
      refine WC.region ?_
      refine WL.ex rfl rfl rfl (Ex.add rfl rfl (i64w _ (by omega) (by omega))) ?_
      refine qA ?_
      refine WL.nil ?_
      refine WX.again (i + 1) ?_ ?_ (.cons rfl (.cons rfl (.cons rfl (.cons rfl (.nil)))))
      · omega
      · exact ⟨by omega, (fun k q h hq => by
          by_cases e : k = i
          · rw [e, hpi] at hq
            obtain rfl := Option.some.inj hq
            omega
          · exact hno k q (by omega) hq), (Mem.sub M12 (List.nil_sublist _))⟩
  · have hnn : v ∉ L.map (·.1) := fun hm => by
      obtain ⟨p, hp, e⟩ := List.mem_map.1 hm
      obtain ⟨k, hk, e2⟩ := List.getElem_of_mem hp
      exact hno k p (by omega) (by rw [List.getElem?_eq_getElem hk, e2]) e
    refine WC.exit ?_
    refine WX.exit_then (WX.exit_then (WX.exit_block (WX.next (?_))))
    refine qD ?_
    refine qB ?_
    refine qE ?_
    refine WC.ret ?_
    refine WX.ret1 rfl rfl ?_
    first | exact ⟨_, rfl, M5.keep, .inl ⟨i, p, rfl, hpi, by omega⟩⟩ | exact ⟨_, rfl, M5.keep, .inr ⟨rfl, hnn⟩⟩

end Go.Proofs.YtchmjpdkonfifaaDoor

set_option linter.unusedVariables false
set_option linter.unusedSimpArgs false
namespace Go.Proofs.YtchmjpdkonfifaaDoor
open Go.Sx Go.RowKit
attribute [local irreducible] Ac Ex WL WC WX WP Gives sha

theorem si_adj {xs : List Nat} (h : ∀ j, 0 < j → j < xs.length → gv xs (j - 1) < gv xs j) : SI xs := fun i j hij hj => by
  obtain ⟨m, rfl⟩ : ∃ m, j = i + 1 + m := ⟨j - i - 1, by omega⟩
  clear hij
  induction m with
  | zero => exact h (i + 1) (by omega) hj
  | succ m ih =>
    have h1 := ih (by omega)
    have h2 := h (i + 1 + (m + 1)) (by omega) hj
    rw [show i + 1 + (m + 1) - 1 = i + 1 + m by omega] at h2
    omega
theorem any_last {xs : List Nat} (h : SI xs) (h0 : 0 < xs.length) (D : Nat) : (xs.any fun x => decide (D ≤ x)) = true ↔ D ≤ gv xs (xs.length - 1) := by
  rw [List.any_eq_true]
  constructor
  · rintro ⟨x, hx, hd⟩
    obtain ⟨k, hk, rfl⟩ := mem_gv.1 hx
    have hd2 := of_decide_eq_true hd
    by_cases e : k = xs.length - 1
    · rw [← e]; exact hd2
    · have := h k (xs.length - 1) (by omega) (by omega)
      omega
  · intro hd
    exact ⟨_, gv_mem (show xs.length - 1 < xs.length by omega), decide_eq_true hd⟩
/-- One more is made, of the sibling that's known, or of the next node. -/
theorem RlI.step {L up : List Kn} {n0 n2 n3 : Hs} {k : Nat} {sk : Bool} {oth : List UInt8} (h : RlI L n0 k up n2 sk) (hs : SI (L.map (·.1))) {x : Kn} (hx : L[k]? = some x) (hf : x.1 / 2 ∉ up.map (·.1))
    (ho : (∃ (m : Nat) (y : Kn), L[m]? = some y ∧ y.1 = bes x.1 ∧ oth = y.2 ∧ n3 = n2) ∨ (bes x.1 ∉ L.map (·.1) ∧ n2 = oth :: n3)) : ∃ sk', RlI L n0 (k + 1) (up ++ [(x.1 / 2, cmb x.1 x.2 oth)]) n3 sk' := by
  rcases ho with ⟨m, y, hy, he, rfl, rfl⟩ | ⟨hn, rfl⟩
  · obtain ⟨h1, h2⟩ := h.pair hs hx hf hy he
    refine ⟨true, ?_⟩
    rw [show cmb x.1 x.2 y.2 = dNode x.2 y.2 from if_pos h1]
    exact h2
  · exact ⟨false, h.lone hs hx hf hn⟩
theorem take_zip {xs : List Nat} {ls : Hs} {i : Nat} {a : List UInt8} (hi : i < xs.length) (ha : ls[i]? = some a) : (xs.zip ls).take (i + 1) = (xs.zip ls).take i ++ [(gv xs i, a)] := take_snoc (by
  rw [List.getElem?_zip_eq_some]
  exact ⟨gv_get hi, ha⟩)
theorem sub_tail {a : List UInt8} {n1 r n0 : Hs} (h : ∀ x ∈ n1, x ∈ n0) (e : n1 = a :: r) : ∀ x ∈ r, x ∈ n0 := fun x hx => h x (by rw [e]; simp [hx])
theorem nd_cut {W : World} {B : Option Addr} {x : List UInt8} {r n1 : Hs} {c : Nat} (h : Rd W B (fl n1)) (e : n1 = x :: r) (h32 : ∀ a ∈ n1, H32 a) (hc : n1.length ≤ c) : Rd W (if c = 1 then B else B.map (·.add (1 * 32))) (fl r) := by
  have h1 := h.cut (k := 1) (m := c) (sz := 32) (fun hm => by rw [fl_len h32]; omega)
  have hx := h32 x (by rw [e]; simp)
  have e2 : (fl n1).drop (1 * 32) = fl r := by
    rw [e, show fl (x :: r) = bytesV x ++ fl r from rfl, show (1 : Nat) * 32 = (bytesV x).length by rw [h32_len hx], List.drop_left]
  rw [e2] at h1
  exact h1

/- sponsion/sponsionref33.Root -/
theorem rroot_ok (w : World) (A B C : Option Addr) (c cb cl : Nat) (xs : List Nat) (ns ls : Hs) (d : Int) (hr : Rd w A (u64V xs)) (hx : ∀ k, gv xs k < 18446744073709551616) (hn50 : xs.length < 50) (hrn : Rd w B (fl ns)) (hns : ∀ a ∈ ns, H32 a) (hnl : ns.length ≤ 1000) (hcb : ns.length ≤ cb) (hrl : Rd w C (fl ls)) (hls : ∀ a ∈ ls, H32 a) (hll : ls.length ≤ 1000) (hR : TabR w) :
    Gives Tryd.prog 38 #[.int .i64 d, .slice A xs.length c, .slice B (List.length ns) cb, .slice C (List.length ls) cl] w fun u w1 => u = .tuple #[.agg (bytesV (rootF d xs ns ls).1).toArray, .int .i64 (rootF d xs ns ls).2] ∧ Keep nof w w1 := by
  have M0 := Mem.start w nof
  refine Gives.enter (n := 156) Tryd.func38 rfl Tryd.ntmps38 rfl (env := [(0, .int .i64 d), (1, .slice A xs.length c), (2, .slice B (List.length ns) cb), (3, .slice C (List.length ls) cl)]) rfl ?_
  refine qD ?_
  refine WL.ac rfl rfl rfl (Ac.alloc M0 (l := bytesV z32) (by kernel_rfl)) ?_; rintro v1 w1 ⟨gr, rfl, hg1, K1, M1⟩
  refine qB ?_
  refine qE ?_
  refine qD ?_
  refine WL.ex rfl rfl rfl (Ex.bld bd31 (parts := []) (l := bytesV z32) rfl rfl rfl rfl) ?_
  refine WL.ac rfl rfl rfl (Ac.alloc M1 (l := bytesV z32) (by kernel_rfl)) ?_; rintro v4 w4 ⟨gz, rfl, hg4, K4, M4⟩
  refine WL.ac0 rfl rfl (Ac.stA M4 ty31 rfl rfl (vs := bytesV z32) rfl (h32_len h32_0) (bytesV_one _) (i := 0) rfl (by rw [h32_len h32_0]; decide)) ?_; rintro v5 w5 ⟨K5, M5⟩
  try dsimp only [List.set] at M5
  rw [splice_all _ _ rfl] at M5
  refine qE ?_
  refine WC.seq ?_
  refine qD ?_
  refine qA ?_
  refine WL.ex rfl rfl rfl (Ex.lss rfl rfl) ?_
  refine qA ?_
  by_cases hd0 : d < 0
  · rw [decide_eq_true hd0]
    have hrf : rootF d xs ns ls = (z32, 1) := if_pos (.inl hd0)
    refine WL.no rfl rfl rfl rfl rfl rfl ?_
    refine WL.no rfl rfl rfl rfl rfl rfl ?_
    refine WL.ex rfl rfl rfl (Ex.pickT rfl rfl) ?_
    refine qE ?_
    refine WC.yes rfl ?_
    refine qD ?_
    refine WL.ex rfl rfl rfl (Ex.loadA ty31 rfl (l := bytesV z32) (h32_len h32_0) (M5.rdw (i := 0) rfl)) ?_
    refine WL.ac0 rfl rfl (Ac.stA M5 ty31 rfl rfl (vs := bytesV z32) rfl (h32_len h32_0) (bytesV_one _) (i := 1) rfl (by rw [h32_len h32_0]; decide)) ?_; rintro v11 w11 ⟨K11, M11⟩
    try dsimp only [List.set] at M11
    rw [splice_all _ _ rfl] at M11
    refine qB ?_
    refine qE ?_
    refine WC.ret ?_
    refine WX.ret_then (?_)
    refine WX.retn rfl (.cell rfl (run_loadVarA ty31 (h32_len (by first | assumption | exact h32_0)) (M11.rdw (i := 1) rfl)) (.tmp rfl .nil)) rfl ?_
    rw [hrf]
    exact ⟨rfl, M11.keep⟩
  · rw [decide_eq_false hd0]
    refine WL.yes rfl rfl rfl rfl ?_
    refine qA ?_
    refine WL.yes rfl rfl rfl rfl ?_
    refine WL.ex rfl rfl rfl (Ex.gtr rfl rfl) ?_
    refine WL.ex rfl rfl rfl (Ex.pickF rfl rfl) ?_
    refine qE ?_
    refine WC.cond_dec rfl (fun h26 => ?_) (fun h26 => ?_)
    · have hrf : rootF d xs ns ls = (z32, 1) := if_pos (by omega)
      refine qD ?_
      refine WL.ex rfl rfl rfl (Ex.loadA ty31 rfl (l := bytesV z32) (h32_len h32_0) (M5.rdw (i := 0) rfl)) ?_
      refine WL.ac0 rfl rfl (Ac.stA M5 ty31 rfl rfl (vs := bytesV z32) rfl (h32_len h32_0) (bytesV_one _) (i := 1) rfl (by rw [h32_len h32_0]; decide)) ?_; rintro v17 w17 ⟨K17, M17⟩
      try dsimp only [List.set] at M17
      rw [splice_all _ _ rfl] at M17
      refine qB ?_
      refine qE ?_
      refine WC.ret ?_
      refine WX.ret_then (?_)
      refine WX.retn rfl (.cell rfl (run_loadVarA ty31 (h32_len (by first | assumption | exact h32_0)) (M17.rdw (i := 1) rfl)) (.tmp rfl .nil)) rfl ?_
      rw [hrf]
      exact ⟨rfl, M17.keep⟩
    · have hw : ¬ (d < 0 ∨ 32 < d) := by omega
      obtain ⟨dn, rfl⟩ : ∃ dn : Nat, d = (dn : Int) := ⟨d.toNat, by omega⟩
      refine WC.skip ?_
      refine WX.next ?_
      refine WC.seq ?_
      refine qD ?_
      refine qA ?_
      refine WL.ex rfl rfl rfl (Ex.len Tryd.underlying67 rfl) ?_
      refine WL.ex rfl rfl rfl (Ex.eqI rfl rfl) ?_
      refine qE ?_
      refine WC.cond_dec rfl (fun h30 => ?_) (fun h30 => ?_)
      · have hrf : rootF (dn : Int) xs ns ls = (z32, 3) := by rw [rootF, if_neg hw, if_pos (by omega)]
        refine qD ?_
        refine WL.ex rfl rfl rfl (Ex.loadA ty31 rfl (l := bytesV z32) (h32_len h32_0) (M5.rdw (i := 0) rfl)) ?_
        refine WL.ac0 rfl rfl (Ac.stA M5 ty31 rfl rfl (vs := bytesV z32) rfl (h32_len h32_0) (bytesV_one _) (i := 1) rfl (by rw [h32_len h32_0]; decide)) ?_; rintro v23 w23 ⟨K23, M23⟩
        try dsimp only [List.set] at M23
        rw [splice_all _ _ rfl] at M23
        refine qB ?_
        refine qE ?_
        refine WC.ret ?_
        refine WX.ret_then (?_)
        refine WX.retn rfl (.cell rfl (run_loadVarA ty31 (h32_len (by first | assumption | exact h32_0)) (M23.rdw (i := 1) rfl)) (.tmp rfl .nil)) rfl ?_
        rw [hrf]
        exact ⟨rfl, M23.keep⟩
      · have hl0 : ¬ xs.length = 0 := by omega
        refine WC.skip ?_
        refine WX.next ?_
        refine WC.seq ?_
        refine qD ?_
        refine qB ?_
        refine qE ?_
        refine WC.block ?_
        refine WC.loop (σ := Nat) (fun k => [(0, .int .i64 (dn : Int)), (1, .slice A xs.length c), (2, .slice B (List.length ns) cb), (3, .slice C (List.length ls) cl), (8, .pointer (some ⟨gr, 0, none⟩)), (10, .pointer (some ⟨gz, 0, none⟩)), (11, .int .i64 (k : Int))]) (fun k wr => 1 ≤ k ∧ k ≤ xs.length ∧ (∀ j, 0 < j → j < k → gv xs (j - 1) < gv xs j) ∧ Mem w wr nof [blk gz (bytesV z32) 31, blk gr (bytesV z32) 31]) (fun k => xs.length - k) (1) ?_ (.cons rfl (.cons rfl (.cons rfl (.cons rfl (.cons rfl (.cons rfl (.cons rfl (.nil)))))))) ?_
        · exact ⟨by omega, by omega, (fun j h1 h2 => by omega), M5⟩
        rintro k w26 ⟨hk1, hk2, hadj, M26⟩
        refine WC.seq ?_
        refine qD ?_
        refine qA ?_
        refine qA ?_
        refine WL.ex rfl rfl rfl (Ex.len Tryd.underlying67 rfl) ?_
        refine WL.ex rfl rfl rfl (Ex.lss rfl rfl) ?_
        refine qE ?_
        refine WC.cond_dec rfl (fun hc35 => ?_) (fun hc35 => ?_)
        · obtain ⟨b0, o0, hA, _⟩ := hr.plain (by simp; omega)
          subst hA
          refine WC.skip ?_
          refine WX.next ?_
          refine WC.seq ?_
          refine WC.block ?_
          refine WC.seq ?_
          refine WC.draw (Keep nof w26.drew) [] (.one 0 0 (.one 1 0 (.one 2 0 (.one 4 0 (.one 5 0 (.one 6 0 (.one 7 0 (.one 3 1 (.one 8 1 (.one 9 0 .nil)))))))))) mixed (by kernel_rfl) (by kernel_rfl) (by kernel_rfl) (HQ.then_ (HQ.block (HQ.then_ (HQ.then_ (HQ.block (HQ.then_ HQ.body)))))) ?_
          obtain ⟨w31, hw31⟩ : ∃ v, v = w26.drew := ⟨_, rfl⟩
          have D31 : Keep nof w26 w31 := by rw [hw31]; exact Keep.drew _ _
          have M31 := M26.step D31
          rw [← hw31]; clear hw31
          refine qC ?_
          refine qC ?_
          refine WP.p rfl rfl rfl rfl (fun _ => Ex.ia Tryd.underlying67 sz23 rfl rfl ⟨by omega, by omega⟩) ?_
          refine qC ?_
          refine qC ?_
          refine WP.p rfl rfl rfl rfl (fun _ => Ex.sub rfl rfl (c := ((k - 1 : Nat) : Int)) (by rw [show (k : Int) - 1 = ((k - 1 : Nat) : Int) by omega]; exact i64w _ (by omega) (by omega))) ?_
          refine WP.p rfl rfl rfl rfl (fun _ => Ex.ia Tryd.underlying67 sz23 rfl rfl ⟨by omega, by omega⟩) ?_
          refine WP.q (Keep.refl _ _) rfl rfl rfl rfl (fun w' hS => Ex.load ty23 rfl (u64_at ((M31.rd hr).keep0 hS) (k := k) (by omega) (by omega))) ?_
          refine WP.q (Keep.refl _ _) rfl rfl rfl rfl (fun w' hS => Ex.load ty23 rfl (u64_at ((M31.rd hr).keep0 hS) (k := k - 1) (by omega) (by omega))) ?_
          refine WP.p rfl rfl rfl rfl (fun _ => Ex.leq rfl rfl) ?_
          refine WP.nil ?_
          refine WX.next ?_
          refine WC.cond_dec rfl (fun h47 => ?_) (fun h47 => ?_)
          · have hrf : rootF (dn : Int) xs ns ls = (z32, 6) := by
              rw [rootF, if_neg hw, if_neg hl0, if_pos (fun h => ?_)]
              have := si_of_pw h.1 (k - 1) k (by omega) (by omega)
              omega
            refine qD ?_
            refine WL.ex rfl rfl rfl (Ex.loadA ty31 rfl (l := bytesV z32) (h32_len h32_0) (M31.rdw (i := 0) rfl)) ?_
            refine WL.ac0 rfl rfl (Ac.stA M31 ty31 rfl rfl (vs := bytesV z32) rfl (h32_len h32_0) (bytesV_one _) (i := 1) rfl (by rw [h32_len h32_0]; decide)) ?_; rintro v43 w43 ⟨K43, M43⟩
            try dsimp only [List.set] at M43
            rw [splice_all _ _ rfl] at M43
            refine qB ?_
            refine qE ?_
            refine WC.ret ?_
            refine WX.ret_block (WX.ret_then (WX.ret_then (WX.ret_block (WX.ret_then (?_)))))
            refine WX.retn rfl (.cell rfl (run_loadVarA ty31 (h32_len (by first | assumption | exact h32_0)) (M43.rdw (i := 1) rfl)) (.tmp rfl .nil)) rfl ?_
            rw [hrf]
            exact ⟨rfl, M43.keep⟩
          · skip
            refine WC.skip ?_
            refine WX.normal_block (WX.next (?_))
            refine WC.region ?_
            refine qA ?_
            refine WL.ex rfl rfl rfl (Ex.add rfl rfl (c := ((k + 1 : Nat) : Int)) (wrapN (by omega) (by omega))) ?_
            refine qB ?_
            refine WL.nil ?_
            refine WX.again (k + 1) ?_ ?_ (.cons rfl (.cons rfl (.cons rfl (.cons rfl (.cons rfl (.cons rfl (.cons rfl (.nil))))))))
            · omega
            · exact ⟨by omega, by omega, (fun j h1 h2 => by
                by_cases e : j = k
                · subst e; omega
                · exact hadj j h1 (by omega)), M31⟩
        · obtain rfl : k = xs.length := by omega
          have hsi := si_adj hadj
          have hpw := si_pw hsi
          refine WC.exit ?_
          refine WX.exit_then (WX.exit_then (WX.exit_block (WX.next (?_))))
          refine WC.seq ?_
          refine qD ?_
          refine qA ?_
          refine WL.ex rfl rfl rfl (Ex.len Tryd.underlying39 rfl) ?_
          refine qA ?_
          refine WL.ex rfl rfl rfl (Ex.len Tryd.underlying67 rfl) ?_
          refine WL.ex rfl rfl rfl (Ex.neI rfl rfl) ?_
          refine qE ?_
          refine WC.cond rfl (fun h53 => ?_) (fun h53 => ?_)
          · have hll2 : ¬ ((List.length ls : Nat) : Int) = ((xs.length : Nat) : Int) := by simpa using h53
            have hrf : rootF (dn : Int) xs ns ls = (z32, 6) := by
              rw [rootF, if_neg hw, if_neg hl0, if_pos (fun h => hll2 (by omega))]
            refine qD ?_
            refine WL.ex rfl rfl rfl (Ex.loadA ty31 rfl (l := bytesV z32) (h32_len h32_0) (M26.rdw (i := 0) rfl)) ?_
            refine WL.ac0 rfl rfl (Ac.stA M26 ty31 rfl rfl (vs := bytesV z32) rfl (h32_len h32_0) (bytesV_one _) (i := 1) rfl (by rw [h32_len h32_0]; decide)) ?_; rintro v54 w54 ⟨K54, M54⟩
            try dsimp only [List.set] at M54
            rw [splice_all _ _ rfl] at M54
            refine qB ?_
            refine qE ?_
            refine WC.ret ?_
            refine WX.ret_then (?_)
            refine WX.retn rfl (.cell rfl (run_loadVarA ty31 (h32_len (by first | assumption | exact h32_0)) (M54.rdw (i := 1) rfl)) (.tmp rfl .nil)) rfl ?_
            rw [hrf]
            exact ⟨rfl, M54.keep⟩
          · have hll3 : ((List.length ls : Nat) : Int) = ((xs.length : Nat) : Int) := by simpa using h53
            have hll2 : ls.length = xs.length := by omega
            have hany := any_last hsi (by omega) (2 ^ dn)
            obtain ⟨b0, o0, hA, _⟩ := hr.plain (by simp; omega)
            subst hA
            refine WC.skip ?_
            refine WX.next ?_
            refine WC.seq ?_
            refine WC.seq ?_
            refine WC.draw (Keep nof w26.drew) [] (.one 0 0 (.one 1 0 (.one 2 0 (.one 3 0 (.one 4 0 (.one 6 0 (.one 5 1 (.one 7 2 (.one 8 0 .nil))))))))) mixed (by kernel_rfl) (by kernel_rfl) (by kernel_rfl) (HQ.then_ (HQ.then_ HQ.body)) ?_
            obtain ⟨w56, hw56⟩ : ∃ v, v = w26.drew := ⟨_, rfl⟩
            have D56 : Keep nof w26 w56 := by rw [hw56]; exact Keep.drew _ _
            have M56 := M26.step D56
            rw [← hw56]; clear hw56
            refine qC ?_
            refine qC ?_
            refine WP.p rfl rfl rfl rfl (fun _ => Ex.len Tryd.underlying67 rfl) ?_
            refine WP.p rfl rfl rfl rfl (fun _ => Ex.sub rfl rfl (c := ((xs.length - 1 : Nat) : Int)) (by rw [show (xs.length : Int) - 1 = ((xs.length - 1 : Nat) : Int) by omega]; exact i64w _ (by omega) (by omega))) ?_
            refine WP.p rfl rfl rfl rfl (fun _ => Ex.ia Tryd.underlying67 sz23 rfl rfl ⟨by omega, by omega⟩) ?_
            refine qC ?_
            refine WP.q (Keep.refl _ _) rfl rfl rfl rfl (fun w' hS => Ex.load ty23 rfl (u64_at ((M56.rd hr).keep0 hS) (k := xs.length - 1) (by omega) (by omega))) ?_
            refine WP.as rfl rfl rfl rfl (Ac.call rfl Tryd.func36 nm36 rfl (places_ok w56 dn 0 (by omega) (by decide))) ?_; rintro v64 w64 ⟨rfl, K64⟩
            refine ⟨Keep nof w64, fun u h => K64.trans h, Keep.refl _ _, ?_⟩
            rw [places_0]
            have M64 := M56.step K64
            refine WP.p rfl rfl rfl rfl (fun _ => Ex.geq rfl rfl) ?_
            refine WP.nil ?_
            refine WX.next ?_
            refine WC.cond_dec rfl (fun h63 => ?_) (fun h63 => ?_)
            · have hrf : rootF (dn : Int) xs ns ls = (z32, 10) := by
                rw [rootF, if_neg hw, if_neg hl0, if_neg (not_not_intro ⟨hpw, hll2⟩), if_pos]
                rw [Int.toNat_natCast]
                exact hany.2 (by omega)
              refine qD ?_
              refine WL.ex rfl rfl rfl (Ex.loadA ty31 rfl (l := bytesV z32) (h32_len h32_0) (M64.rdw (i := 0) rfl)) ?_
              refine WL.ac0 rfl rfl (Ac.stA M64 ty31 rfl rfl (vs := bytesV z32) rfl (h32_len h32_0) (bytesV_one _) (i := 1) rfl (by rw [h32_len h32_0]; decide)) ?_; rintro v67 w67 ⟨K67, M67⟩
              try dsimp only [List.set] at M67
              rw [splice_all _ _ rfl] at M67
              refine qB ?_
              refine qE ?_
              refine WC.ret ?_
              refine WX.ret_then (?_)
              refine WX.retn rfl (.cell rfl (run_loadVarA ty31 (h32_len (by first | assumption | exact h32_0)) (M67.rdw (i := 1) rfl)) (.tmp rfl .nil)) rfl ?_
              rw [hrf]
              exact ⟨rfl, M67.keep⟩
            · have hw0 : wrongF (dn : Int) xs (List.length ls) = 0 := wrong_in hw hl0 hpw hll2 (by
                rw [Int.toNat_natCast]
                intro h
                have := hany.1 h
                omega)
              have hzl : List.length (List.zip xs ls) = xs.length := by simp; omega
              refine WC.skip ?_
              refine WX.next ?_
              refine qD ?_
              refine qB ?_
              refine qE ?_
              refine WC.seq ?_
              refine qD ?_
              refine qA ?_
              refine WL.ex rfl rfl rfl (Ex.len Tryd.underlying67 rfl) ?_
              refine qA ?_
              refine qE ?_
              refine WC.block ?_
              refine WC.loop (σ := Nat × Option Addr × Nat) (fun s => [(0, .int .i64 (dn : Int)), (2, .slice B (List.length ns) cb), (3, .slice C (List.length ls) cl), (8, .pointer (some ⟨gr, 0, none⟩)), (10, .pointer (some ⟨gz, 0, none⟩)), (12, .slice s.2.1 (List.length (List.take (s.1) (List.zip xs ls))) s.2.2), (65, .slice (some ⟨b0, o0, none⟩) xs.length c), (66, .int .i64 (xs.length : Int)), (67, .int .i64 (s.1 : Int))]) (fun s wr => s.1 ≤ xs.length ∧ Mem w wr nof [row (.slice s.2.1 (List.length (List.take (s.1) (List.zip xs ls))) s.2.2) 126 33 (List.length (List.take (s.1) (List.zip xs ls))) (List.flatMap knC (List.take (s.1) (List.zip xs ls))), blk gz (bytesV z32) 31, blk gr (bytesV z32) 31]) (fun s => xs.length - s.1) (((0, none, 0) : Nat × Option Addr × Nat)) ?_ (.cons rfl (.cons rfl (.cons rfl (.cons rfl (.cons rfl (.cons rfl (.cons rfl (.cons rfl (.cons rfl (.nil)))))))))) ?_
              · have Ma := M64.free (r := row (.slice none 0 0) 126 33 0 []) (row_nil _ _ _) rfl
                exact ⟨by simp, Ma.pick [0, 0 + 1, 1 + 1] (by decide) rfl⟩
              rintro ⟨k, Av, cv⟩ w73 ⟨hk, M73⟩
              dsimp only at hk M73
              refine WC.sub (env' := [(0, .int .i64 (dn : Int)), (2, .slice B (List.length ns) cb), (3, .slice C (List.length ls) cl), (8, .pointer (some ⟨gr, 0, none⟩)), (10, .pointer (some ⟨gz, 0, none⟩)), (12, .slice Av (List.length (List.take (k) (List.zip xs ls))) cv), (65, .slice (some ⟨b0, o0, none⟩) xs.length c), (66, .int .i64 (xs.length : Int)), (67, .int .i64 (k : Int))]) (.cons rfl (.cons rfl (.cons rfl (.cons rfl (.cons rfl (.cons rfl (.cons rfl (.cons rfl (.cons rfl (.nil)))))))))) ?_
              refine qD ?_
              refine WL.ex rfl rfl rfl (Ex.lss rfl rfl) ?_
              refine qE ?_
              refine WC.seq ?_
              refine WC.cond_dec rfl (fun hc68 => ?_) (fun hc68 => ?_)
              · obtain ⟨a, hai⟩ : ∃ a, ls[k]? = some a := ⟨_, List.getElem?_eq_getElem (by omega)⟩
                have ha32 := hls a (List.mem_of_getElem? hai)
                have hko : KnOk (gv xs k, a) := ⟨hx k, ha32⟩
                have htz := take_zip (show k < xs.length by omega) hai
                have htl : List.length (List.take (k) (List.zip xs ls)) = k := by simp; omega
                obtain ⟨b1, o1, hC, _⟩ := hrl.plain (by rw [fl_len hls]; omega)
                subst hC
                refine WC.skip ?_
                refine WX.next ?_
                refine WC.seq ?_
                refine WC.block ?_
                refine qD ?_
                refine qA ?_
                refine WL.ex rfl rfl rfl (Ex.ia Tryd.underlying67 sz23 rfl rfl ⟨by omega, by omega⟩) ?_
                refine WL.ex rfl rfl rfl (Ex.load ty23 rfl (u64_at (M73.rd hr) (k := k) (by omega) (by omega))) ?_
                refine qB ?_
                refine qB ?_
                refine qE ?_
                refine WC.region ?_
                refine qA ?_
                refine qA ?_
                refine qA ?_
                refine qA ?_
                refine WL.ex rfl rfl rfl (Ex.ia Tryd.underlying39 sz31 rfl rfl ⟨by omega, by omega⟩) ?_
                refine WL.ex rfl rfl rfl (Ex.loadA ty31 rfl (l := bytesV a) (h32_len ha32) (fl_at (i := k) (M73.rd hrl) hls hai (by simp))) ?_
                refine WL.ex rfl rfl rfl (Ex.bldS bd126 (parts := [(0, .tmp 73), (1, .tmp 77)]) _ rfl rfl rfl (bldKn ha32)) ?_
                refine WL.ac rfl rfl rfl (Ac.bs M73 (parts := [(0, .tmp 78)]) rfl rfl (LitS.agg1 el124 rfl (kn_len hko) (by decide))) ?_; rintro v87 w87 ⟨gs, rfl, hg87, K87, M87⟩
                refine WL.ac rfl rfl rfl (Ac.app M87 el124 rfl rfl (i := 1) rfl (by rw [kn_len hko]) (M87.rdw (i := 0) rfl) kn_one (by omega) (by unfold maxLen; omega)) ?_; rintro v88 w88 ⟨K88, M88⟩
                try dsimp only [List.set] at M88
                rw [show List.flatMap knC (List.take (k) (List.zip xs ls)) ++ knC (gv xs k, a) = List.flatMap knC (List.take (k + 1) (List.zip xs ls)) by rw [htz]; simp, show List.length (List.take (k) (List.zip xs ls)) + 1 = List.length (List.take (k + 1) (List.zip xs ls)) by rw [htz]; simp] at M88
                obtain ⟨Az, cz, rfl⟩ := own_slice (M88.get (i := 1) rfl)
                refine qB ?_
                refine WL.nil ?_
                refine WX.normal_block (WX.next (?_))
                refine WC.region ?_
                refine WL.ex rfl rfl rfl (Ex.add rfl rfl (i64w _ (by omega) (by omega))) ?_
                refine qA ?_
                refine WL.nil ?_
                refine WX.again (((k + 1, Az, cz) : Nat × Option Addr × Nat)) ?_ ?_ (.cons rfl (.cons rfl (.cons rfl (.cons rfl (.cons rfl (.cons rfl (.cons rfl (.cons rfl (.cons rfl (.nil))))))))))
                · dsimp only; omega
                · exact ⟨by dsimp only; omega, (Mem.sub M88 (.cons _ (.refl _)))⟩
              · obtain rfl : k = xs.length := by omega
                rw [List.take_of_length_le (Nat.le_of_eq hzl)] at M73 ⊢
                obtain ⟨gl0, rfl⟩ := own_some (M73.get (i := 0) rfl) (by omega)
                have hok0 : ∀ p ∈ List.zip xs ls, KnOk p := fun p hp => by
                  have h1 := List.of_mem_zip (a := p.1) (b := p.2) hp
                  obtain ⟨j, _, e⟩ := mem_gv.1 h1.1
                  exact ⟨by rw [← e]; exact hx j, hls _ h1.2⟩
                refine WC.exit ?_
                refine WX.exit_then (WX.exit_then (WX.exit_block (WX.next (?_))))
                refine WC.seq ?_
                refine qD ?_
                refine qA ?_
                refine qA ?_
                refine qE ?_
                refine WC.block ?_
                refine WC.loop (σ := Nat × Nat × Nat × List Kn × Option Addr × Nat × Hs) (fun s => [(2, .slice s.2.2.2.2.1 (List.length s.2.2.2.2.2.2) s.2.2.2.2.2.1), (8, .pointer (some ⟨gr, 0, none⟩)), (10, .pointer (some ⟨gz, 0, none⟩)), (12, .slice (some ⟨s.2.1, 0, none⟩) (List.length s.2.2.2.1) s.2.2.1), (82, .int .i64 (dn : Int)), (83, .int .i64 (s.1 : Int))]) (fun s wr => s.1 ≤ dn ∧ rtop dn (List.zip xs ls) ns = rtop (dn - s.1) s.2.2.2.1 s.2.2.2.2.2.2 ∧ SI (List.map (fun p => p.1) s.2.2.2.1) ∧ (∀ p ∈ s.2.2.2.1, KnOk p) ∧ 0 < List.length s.2.2.2.1 ∧ List.length s.2.2.2.1 ≤ 50 ∧ Rd w s.2.2.2.2.1 (fl s.2.2.2.2.2.2) ∧ List.length s.2.2.2.2.2.2 ≤ s.2.2.2.2.2.1 ∧ (∀ x ∈ s.2.2.2.2.2.2, x ∈ ns) ∧ List.length s.2.2.2.2.2.2 ≤ 1000 ∧ Mem w wr nof [row (.slice (some ⟨s.2.1, 0, none⟩) (List.length s.2.2.2.1) s.2.2.1) 126 33 (List.length s.2.2.2.1) (List.flatMap knC s.2.2.2.1), blk gz (bytesV z32) 31, blk gr (bytesV z32) 31]) (fun s => dn - s.1) (((0, gl0, cv, List.zip xs ls, B, cb, ns) : Nat × Nat × Nat × List Kn × Option Addr × Nat × Hs)) ?_ (.cons rfl (.cons rfl (.cons rfl (.cons rfl (.cons rfl (.cons rfl (.nil))))))) ?_
                · exact ⟨Nat.zero_le _, rfl, by dsimp only; rw [zip_fst _ _ hll2]; exact hsi, hok0, by dsimp only; omega, by dsimp only; omega, hrn, hcb, fun x h => h, hnl, M73⟩
                rintro ⟨q, gl, cl2, L, B1, c1, n1⟩ w94 ⟨hq, hrt, hLs, hLok, hL0, hL50, hrB1, hcap1, hsub1, hn1l, M94⟩
                dsimp only at hq hrt hLs hLok hL0 hL50 hrB1 hcap1 hsub1 hn1l M94
                refine WC.sub (env' := [(2, .slice B1 (List.length n1) c1), (8, .pointer (some ⟨gr, 0, none⟩)), (10, .pointer (some ⟨gz, 0, none⟩)), (12, .slice (some ⟨gl, 0, none⟩) (List.length L) cl2), (82, .int .i64 (dn : Int)), (83, .int .i64 (q : Int))]) (.cons rfl (.cons rfl (.cons rfl (.cons rfl (.cons rfl (.cons rfl (.nil))))))) ?_
                refine qD ?_
                refine WL.ex rfl rfl rfl (Ex.lss rfl rfl) ?_
                refine qE ?_
                refine WC.seq ?_
                refine WC.cond_dec rfl (fun hc84 => ?_) (fun hc84 => ?_)
                · skip
                  refine WC.skip ?_
                  refine WX.next ?_
                  refine WC.seq ?_
                  refine WC.block ?_
                  refine qD ?_
                  refine qB ?_
                  refine qE ?_
                  refine WC.seq ?_
                  refine qD ?_
                  refine qA ?_
                  refine WL.ex rfl rfl rfl (Ex.len Tryd.underlying124 rfl) ?_
                  refine qA ?_
                  refine qE ?_
                  refine WC.block ?_
                  refine WC.loop (σ := Nat × Option Addr × Nat × List Kn × Option Addr × Nat × Hs × Bool) (fun s => [(2, .slice s.2.2.2.2.1 (List.length s.2.2.2.2.2.2.1) s.2.2.2.2.2.1), (8, .pointer (some ⟨gr, 0, none⟩)), (10, .pointer (some ⟨gz, 0, none⟩)), (12, .slice (some ⟨gl, 0, none⟩) (List.length L) cl2), (15, .slice s.2.1 (List.length s.2.2.2.1) s.2.2.1), (82, .int .i64 (dn : Int)), (83, .int .i64 (q : Int)), (85, .slice (some ⟨gl, 0, none⟩) (List.length L) cl2), (86, .int .i64 (List.length L : Int)), (87, .int .i64 (s.1 : Int))]) (fun s wr => s.1 ≤ List.length L ∧ RlI L n1 s.1 s.2.2.2.1 s.2.2.2.2.2.2.1 s.2.2.2.2.2.2.2 ∧ (∀ p ∈ s.2.2.2.1, KnOk p) ∧ List.length s.2.2.2.1 ≤ s.1 ∧ Rd w s.2.2.2.2.1 (fl s.2.2.2.2.2.2.1) ∧ List.length s.2.2.2.2.2.2.1 ≤ s.2.2.2.2.2.1 ∧ (∀ x ∈ s.2.2.2.2.2.2.1, x ∈ ns) ∧ List.length s.2.2.2.2.2.2.1 ≤ 1000 ∧ Mem w wr nof [row (.slice s.2.1 (List.length s.2.2.2.1) s.2.2.1) 126 33 (List.length s.2.2.2.1) (List.flatMap knC s.2.2.2.1), row (.slice (some ⟨gl, 0, none⟩) (List.length L) cl2) 126 33 (List.length L) (List.flatMap knC L), blk gz (bytesV z32) 31, blk gr (bytesV z32) 31]) (fun s => List.length L - s.1) (((0, none, 0, [], B1, c1, n1, false) : Nat × Option Addr × Nat × List Kn × Option Addr × Nat × Hs × Bool)) ?_ (.cons rfl (.cons rfl (.cons rfl (.cons rfl (.cons rfl (.cons rfl (.cons rfl (.cons rfl (.cons rfl (.cons rfl (.nil))))))))))) ?_
                  · have Ma := M94.free (r := row (.slice none 0 0) 126 33 0 []) (row_nil _ _ _) rfl
                    exact ⟨by dsimp only; omega, .start _ _, by simp, by simp, hrB1, hcap1, hsub1, hn1l, Ma.pick [0, 0 + 1, 1 + 1, 2 + 1] (by decide) rfl⟩
                  rintro ⟨k, Au, cu, up, B2, c2, n2, sk⟩ w100 ⟨hk, hrl1, hupok, hupl, hrB2, hcap2, hsub2, hn2l, M100⟩
                  dsimp only at hk hrl1 hupok hupl hrB2 hcap2 hsub2 hn2l M100
                  refine WC.sub (env' := [(2, .slice B2 (List.length n2) c2), (8, .pointer (some ⟨gr, 0, none⟩)), (10, .pointer (some ⟨gz, 0, none⟩)), (12, .slice (some ⟨gl, 0, none⟩) (List.length L) cl2), (15, .slice Au (List.length up) cu), (82, .int .i64 (dn : Int)), (83, .int .i64 (q : Int)), (85, .slice (some ⟨gl, 0, none⟩) (List.length L) cl2), (86, .int .i64 (List.length L : Int)), (87, .int .i64 (k : Int))]) (.cons rfl (.cons rfl (.cons rfl (.cons rfl (.cons rfl (.cons rfl (.cons rfl (.cons rfl (.cons rfl (.cons rfl (.nil))))))))))) ?_
                  refine qD ?_
                  refine WL.ex rfl rfl rfl (Ex.lss rfl rfl) ?_
                  refine qE ?_
                  refine WC.seq ?_
                  refine WC.cond_dec rfl (fun hc88 => ?_) (fun hc88 => ?_)
                  · obtain ⟨p, hpi⟩ : ∃ p, L[k]? = some p := ⟨_, List.getElem?_eq_getElem (by omega)⟩
                    have hpo := hLok p (List.mem_of_getElem? hpi)
                    have hpl := hpo.pl
                    refine WC.skip ?_
                    refine WX.next ?_
                    refine WC.seq ?_
                    refine WC.block ?_
                    refine qD ?_
                    refine WL.ex rfl rfl rfl (Ex.ia Tryd.underlying124 sz126 rfl rfl ⟨by omega, by omega⟩) ?_
                    refine WL.ex rfl rfl rfl (Ex.loadA ty126 rfl (l := knC p) (kn_len hpo) (Rd.flat (M100.rdr (i := 1) rfl) (i := (k : Int).toNat) (fun t ht => kn_len (hLok t ht)) (by simpa using hpi))) ?_
                    refine WL.ac rfl rfl rfl (Ac.alloc M100 (l := knC kn0) (by kernel_rfl)) ?_; rintro v104 w104 ⟨gx, rfl, hg104, K104, M104⟩
                    refine WL.ac0 rfl rfl (Ac.stA M104 ty126 rfl rfl rfl (kn_len (by first | assumption | exact kn0_ok)) kn_one (i := 0) rfl (by first | (rw [kn_len (by first | assumption | exact kn0_ok), kn_len (by first | assumption | exact kn0_ok)]; decide) | (rw [kn_len (by first | assumption | exact kn0_ok)]; decide) | rw [kn_len (by first | assumption | exact kn0_ok)])) ?_; rintro v105 w105 ⟨K105, M105⟩
                    try dsimp only [List.set] at M105
                    rw [splice_all _ _ (by first | rw [kn_len (by first | assumption | exact kn0_ok), kn_len (by first | assumption | exact kn0_ok)] | rw [kn_len (by first | assumption | exact kn0_ok)])] at M105
                    refine qE ?_
                    refine WC.seq ?_
                    refine qD ?_
                    refine qA ?_
                    refine WL.ex rfl rfl rfl (Ex.fa fl126_0 rfl) ?_
                    refine WL.ex rfl rfl rfl (Ex.load ty23 rfl (M105.cell (i := 0) rfl (kn_g0 (by first | assumption | exact kn0_ok)))) ?_
                    refine WL.ex rfl rfl rfl (Ex.quo rfl rfl (by omega) (c := (((p.1) / 2 : Nat) : Int)) (by rw [Int.tdiv_eq_ediv_of_nonneg (by omega), show ((p.1 : Nat) : Int) / 2 = (((p.1) / 2 : Nat) : Int) by omega]; exact u64w_lt _ (by omega))) ?_
                    refine WL.ac rfl rfl rfl (Ac.call rfl Tryd.func75 nm75 rfl (find_ok w105 Au cu up (p.1 / 2) (M105.rdr (i := 1) rfl) hupok (by omega))) ?_; rintro v110 w110 ⟨z1, rfl, K110, hfz⟩
                    have M110 := M105.step K110
                    refine WL.ex rfl rfl rfl (Ex.geq rfl rfl) ?_
                    refine qE ?_
                    refine WC.cond_dec rfl (fun h96 => ?_) (fun h96 => ?_)
                    · have hfd : p.1 / 2 ∈ up.map (·.1) := by
                        rcases hfz with ⟨m, y, _, hy, he⟩ | ⟨e, _⟩
                        · exact List.mem_map.2 ⟨y, List.mem_of_getElem? hy, he⟩
                        · omega
                      have hrl2 := hrl1.found hLs hpi hfd
                      refine WC.exit ?_
                      refine WX.exit_then (WX.exit_block (WX.next (?_)))
                      refine WC.region ?_
                      refine WL.ex rfl rfl rfl (Ex.add rfl rfl (c := ((k + 1 : Nat) : Int)) (wrapN (by omega) (by omega))) ?_
                      refine qA ?_
                      refine WL.nil ?_
                      refine WX.again (((k + 1, Au, cu, up, B2, c2, n2, false) : Nat × Option Addr × Nat × List Kn × Option Addr × Nat × Hs × Bool)) ?_ ?_ (.cons rfl (.cons rfl (.cons rfl (.cons rfl (.cons rfl (.cons rfl (.cons rfl (.cons rfl (.cons rfl (.cons rfl (.nil)))))))))))
                      · dsimp only; omega
                      · first
                          | exact ⟨by dsimp only; omega, hrl2, hup2, by simp; omega, hrB3, hcap3, hsub3, hn3l, (Mem.sub M110 (.cons _ (.refl _)))⟩
                          | exact ⟨by dsimp only; omega, hrl2, hupok, by dsimp only; omega, hrB2, hcap2, hsub2, hn2l, (Mem.sub M110 (.cons _ (.refl _)))⟩
                    · have hnf : p.1 / 2 ∉ up.map (·.1) := by
                        rcases hfz with ⟨m, y, e, _, _⟩ | ⟨_, h⟩
                        · omega
                        · exact h
                      refine WC.skip ?_
                      refine WX.next ?_
                      refine qD ?_
                      refine WL.ex rfl rfl rfl (Ex.loadA ty31 rfl (l := bytesV z32) (h32_len h32_0) (M110.rdw (i := 3) rfl)) ?_
                      refine WL.ac rfl rfl rfl (Ac.alloc M110 (l := bytesV z32) (by kernel_rfl)) ?_; rintro v115 w115 ⟨go, rfl, hg115, K115, M115⟩
                      refine WL.ac0 rfl rfl (Ac.stA M115 ty31 rfl rfl (vs := bytesV z32) rfl (h32_len h32_0) (bytesV_one _) (i := 0) rfl (by rw [h32_len h32_0]; decide)) ?_; rintro v116 w116 ⟨K116, M116⟩
                      try dsimp only [List.set] at M116
                      rw [splice_all _ _ rfl] at M116
                      refine qE ?_
                      refine WC.cut (σ := List UInt8 × Option Addr × Nat × Hs) (fun s => [(2, .slice s.2.1 (List.length s.2.2.2) s.2.2.1), (8, .pointer (some ⟨gr, 0, none⟩)), (10, .pointer (some ⟨gz, 0, none⟩)), (12, .slice (some ⟨gl, 0, none⟩) (List.length L) cl2), (15, .slice Au (List.length up) cu), (17, .pointer (some ⟨gx, 0, none⟩)), (18, .pointer (some ⟨go, 0, none⟩)), (82, .int .i64 (dn : Int)), (83, .int .i64 (q : Int)), (85, .slice (some ⟨gl, 0, none⟩) (List.length L) cl2), (86, .int .i64 (List.length L : Int)), (87, .int .i64 (k : Int))]) (fun s wr => H32 s.1 ∧ ((∃ (m : Nat) (y : Kn), L[m]? = some y ∧ y.1 = bes p.1 ∧ s.1 = y.2 ∧ s.2.2.2 = n2) ∨ (bes p.1 ∉ List.map (fun p => p.1) L ∧ n2 = s.1 :: s.2.2.2)) ∧ Rd w s.2.1 (fl s.2.2.2) ∧ List.length s.2.2.2 ≤ s.2.2.1 ∧ (∀ x ∈ s.2.2.2, x ∈ ns) ∧ List.length s.2.2.2 ≤ 1000 ∧ Mem w wr nof [blk go (bytesV s.1) 31, blk gx (knC p) 126, row (.slice Au (List.length up) cu) 126 33 (List.length up) (List.flatMap knC up), row (.slice (some ⟨gl, 0, none⟩) (List.length L) cl2) 126 33 (List.length L) (List.flatMap knC L), blk gz (bytesV z32) 31, blk gr (bytesV z32) 31]) ?_ ?_
                      ·
                        refine qD ?_
                        refine qA ?_
                        refine WL.ex rfl rfl rfl (Ex.fa fl126_0 rfl) ?_
                        refine WL.ex rfl rfl rfl (Ex.load ty23 rfl (M116.cell (i := 1) rfl (kn_g0 (by first | assumption | exact kn0_ok)))) ?_
                        refine WL.ac rfl rfl rfl (Ac.call rfl Tryd.func69 nm69 rfl (bes_ok w116 p.1 hpl)) ?_; rintro v120 w120 ⟨rfl, K120⟩
                        have M120 := M116.step K120
                        refine WL.ac rfl rfl rfl (Ac.call rfl Tryd.func75 nm75 rfl (find_ok w120 (some ⟨gl, 0, none⟩) cl2 L (bes p.1) (M120.rdr (i := 3) rfl) hLok (by omega))) ?_; rintro v121 w121 ⟨z2, rfl, K121, hfz2⟩
                        have M121 := M120.step K121
                        refine qB ?_
                        refine qE ?_
                        refine qD ?_
                        refine qA ?_
                        refine WL.ex rfl rfl rfl (Ex.geq rfl rfl) ?_
                        refine qE ?_
                        refine WC.cond_dec rfl (fun h104 => ?_) (fun h104 => ?_)
                        · obtain ⟨m, y, rfl, hy, he⟩ : ∃ (m : Nat) (y : Kn), z2 = (m : Int) ∧ L[m]? = some y ∧ y.1 = bes p.1 := by
                            rcases hfz2 with h | ⟨e, _⟩
                            · exact h
                            · omega
                          have hyo := hLok y (List.mem_of_getElem? hy)
                          have hmL := (List.getElem?_eq_some_iff.1 hy).1
                          refine WC.region ?_
                          refine qA ?_
                          refine qA ?_
                          refine WL.ex rfl rfl rfl (Ex.ia Tryd.underlying124 sz126 rfl rfl ⟨by omega, by omega⟩) ?_
                          refine WL.ex rfl rfl rfl (Ex.fa fl126_1 rfl) ?_
                          refine WL.ex rfl rfl rfl (Ex.loadA ty31 rfl (l := bytesV y.2) (h32_len hyo.h32) (kn_part (M121.rdr (i := 3) rfl) hLok hy (by simp))) ?_
                          refine WL.ac0 rfl rfl (Ac.stA M121 ty31 rfl rfl (vs := bytesV y.2) rfl (h32_len hyo.h32) (bytesV_one _) (i := 0) rfl (by rw [h32_len hyo.h32]; decide)) ?_; rintro v130 w130 ⟨K130, M130⟩
                          try dsimp only [List.set] at M130
                          rw [splice_all _ _ (by rw [h32_len hyo.h32]; rfl)] at M130
                          refine WL.nil ?_
                          refine WX.join (((y.2, B2, c2, n2) : List UInt8 × Option Addr × Nat × Hs)) ?_ (.cons rfl (.cons rfl (.cons rfl (.cons rfl (.cons rfl (.cons rfl (.cons rfl (.cons rfl (.cons rfl (.cons rfl (.cons rfl (.cons rfl (.nil)))))))))))))
                          exact ⟨hyo.h32, .inl ⟨m, y, hy, he, rfl, rfl⟩, hrB2, hcap2, hsub2, hn2l, M130⟩
                        · have hnm : bes p.1 ∉ L.map (·.1) := by
                            rcases hfz2 with ⟨m, y, e, _, _⟩ | ⟨_, h⟩
                            · omega
                            · exact h
                          refine WC.seq ?_
                          refine qD ?_
                          refine qA ?_
                          refine WL.ex rfl rfl rfl (Ex.len Tryd.underlying39 rfl) ?_
                          refine WL.ex rfl rfl rfl (Ex.eqI rfl rfl) ?_
                          refine qE ?_
                          refine WC.cond_dec rfl (fun h112 => ?_) (fun h112 => ?_)
                          · have hn0 : n2 = [] := List.length_eq_zero_iff.1 (by omega)
                            subst hn0
                            have hsh := hrl1.short hLs hpi hnf hnm
                            have hrtn : rtop dn (List.zip xs ls) ns = none := by
                              rw [hrt, show dn - q = dn - q - 1 + 1 by omega, rtop, hsh]
                              rfl
                            have hrf := root_none (d := (dn : Int)) hw0 hrtn
                            refine qD ?_
                            refine WL.ex rfl rfl rfl (Ex.loadA ty31 rfl (l := bytesV z32) (h32_len h32_0) (M121.rdw (i := 4) rfl)) ?_
                            refine WL.ac0 rfl rfl (Ac.stA M121 ty31 rfl rfl (vs := bytesV z32) rfl (h32_len h32_0) (bytesV_one _) (i := 5) rfl (by rw [h32_len h32_0]; decide)) ?_; rintro v135 w135 ⟨K135, M135⟩
                            try dsimp only [List.set] at M135
                            rw [splice_all _ _ rfl] at M135
                            refine qB ?_
                            refine qE ?_
                            refine WC.ret ?_
                            refine WX.ret_then (WX.ret_then (WX.ret_block (WX.ret_then (WX.ret_then (WX.ret_block (WX.ret_then (WX.ret_block (WX.ret_then (WX.ret_then (WX.ret_block (WX.ret_then (?_))))))))))))
                            refine WX.retn rfl (.cell rfl (run_loadVarA ty31 (h32_len (by first | assumption | exact h32_0)) (M135.rdw (i := 5) rfl)) (.tmp rfl .nil)) rfl ?_
                            rw [hrf]
                            exact ⟨rfl, M135.keep⟩
                          · obtain ⟨a, r, hn2e⟩ : ∃ a r, n2 = a :: r := by
                              cases hq2 : n2 with
                              | nil => rw [hq2] at h112; exact absurd rfl h112
                              | cons a r => exact ⟨a, r, rfl⟩
                            subst hn2e
                            have hn2s : ∀ x ∈ a :: r, H32 x := fun x h => hns x (hsub2 x h)
                            have ha32 := hn2s a (by simp)
                            obtain ⟨b2, o2, hB2, _⟩ := hrB2.plain (by rw [fl_len hn2s, List.length_cons]; omega)
                            subst hB2
                            refine WC.skip ?_
                            refine WX.next ?_
                            refine qD ?_
                            refine qA ?_
                            refine WL.ex rfl rfl rfl (Ex.ia Tryd.underlying39 sz31 rfl rfl ⟨by omega, by simp only [List.length_cons]; omega⟩) ?_
                            refine WL.ex rfl rfl rfl (Ex.loadA ty31 rfl (l := bytesV a) (h32_len ha32) (fl_at (i := 0) (M121.rd hrB2) hn2s rfl (by simp))) ?_
                            refine WL.ac0 rfl rfl (Ac.stA M121 ty31 rfl rfl (vs := bytesV a) rfl (h32_len ha32) (bytesV_one _) (i := 0) rfl (by rw [h32_len ha32]; decide)) ?_; rintro v140 w140 ⟨K140, M140⟩
                            try dsimp only [List.set] at M140
                            rw [splice_all _ _ (by rw [h32_len ha32]; rfl)] at M140
                            refine qE ?_
                            refine WC.region ?_
                            refine qA ?_
                            refine WL.ex rfl rfl rfl (Ex.sll (j := 1) Tryd.underlying39 sz31 rfl rfl (by decide) (by simp only [List.length_cons]; omega)) ?_
                            refine qB ?_
                            refine WL.nil ?_
                            refine WX.join (((a, (if c2 = 1 then some ⟨b2, o2, none⟩ else (some ⟨b2, o2, none⟩ : Option Addr).map (·.add (1 * 32))), c2 - 1, r) : List UInt8 × Option Addr × Nat × Hs)) ?_ (.cons rfl (.cons rfl (.cons rfl (.cons rfl (.cons rfl (.cons rfl (.cons rfl (.cons rfl (.cons rfl (.cons rfl (.cons rfl (.cons rfl (.nil)))))))))))))
                            exact ⟨ha32, .inr ⟨hnm, rfl⟩, nd_cut hrB2 rfl hn2s hcap2, by simp at hcap2 ⊢; omega, sub_tail hsub2 rfl, by simp at hn2l ⊢; omega, M140⟩
                      · rintro ⟨oth, B3, c3, n3⟩ w144 ⟨hoth, hout, hrB3, hcap3, hsub3, hn3l, M144⟩
                        dsimp only at hoth hout hrB3 hcap3 hsub3 hn3l M144
                        refine WC.sub (env' := [(2, .slice B3 (List.length n3) c3), (8, .pointer (some ⟨gr, 0, none⟩)), (10, .pointer (some ⟨gz, 0, none⟩)), (12, .slice (some ⟨gl, 0, none⟩) (List.length L) cl2), (15, .slice Au (List.length up) cu), (17, .pointer (some ⟨gx, 0, none⟩)), (18, .pointer (some ⟨go, 0, none⟩)), (82, .int .i64 (dn : Int)), (83, .int .i64 (q : Int)), (85, .slice (some ⟨gl, 0, none⟩) (List.length L) cl2), (86, .int .i64 (List.length L : Int)), (87, .int .i64 (k : Int))]) (.cons rfl (.cons rfl (.cons rfl (.cons rfl (.cons rfl (.cons rfl (.cons rfl (.cons rfl (.cons rfl (.cons rfl (.cons rfl (.cons rfl (.nil))))))))))))) ?_
                        refine qD ?_
                        refine WL.ex rfl rfl rfl (Ex.fa fl126_0 rfl) ?_
                        refine WL.ex rfl rfl rfl (Ex.load ty23 rfl (M144.cell (i := 1) rfl (kn_g0 (by first | assumption | exact kn0_ok)))) ?_
                        refine WL.ex rfl rfl rfl (Ex.rem rfl rfl (by omega) (c := ((p.1 % 2 : Nat) : Int)) (by rw [Int.tmod_eq_emod_of_nonneg (by omega)]; omega)) ?_
                        refine WL.ex rfl rfl rfl (Ex.eqI rfl rfl) ?_
                        refine qE ?_
                        refine WC.cond_dec rfl (fun h122 => ?_) (fun h122 => ?_)
                        · have hko : KnOk (p.1 / 2, cmb p.1 p.2 oth) := ⟨by show p.1 / 2 < _; omega, cmb32 _ _ _⟩
                          have hcm : dNode p.2 oth = cmb p.1 p.2 oth := (if_pos (by omega)).symm
                          have D149 := Keep.drew nof w144
                          have M149 := M144.step D149
                          refine WC.draw (Keep (FP M149 [2]) w144.drew) [] (.one 0 0 (.one 1 0 (.one 4 0 (.one 2 1 (.one 3 0 (.one 5 1 (.one 6 1 (.one 7 2 (.one 8 0 (.one 9 2 (.one 10 2 (.one 11 0 .nil)))))))))))) mixed (by kernel_rfl) (by kernel_rfl) (by kernel_rfl) (HQ.block (HQ.then_ (HQ.then_ (HQ.block (HQ.then_ (HQ.block (HQ.then_ (HQ.then_ (HQ.block (HQ.then_ HQ.body)))))))))) ?_
                          revert D149 M149; generalize w144.drew = w149; intro D149 M149
                          have B149 : Mem w149 w149 (FP M149 [2]) [_] := M149.base [2] (by decide)
                          refine qC ?_
                          refine WP.p rfl rfl rfl rfl (fun _ => Ex.fa fl126_0 rfl) ?_
                          refine WP.p rfl rfl rfl rfl (fun _ => Ex.fa fl126_1 rfl) ?_
                          refine WP.q B149.keep rfl rfl rfl rfl (fun w' hS => Ex.load ty23 rfl (M149.fp_cell (j := 1) hS rfl (kn_g0 (by first | assumption | exact kn0_ok)) rfl)) ?_
                          refine WP.p rfl rfl rfl rfl (fun _ => Ex.quo rfl rfl (by omega) (c := (((p.1) / 2 : Nat) : Int)) (by rw [Int.tdiv_eq_ediv_of_nonneg (by omega), show ((p.1 : Nat) : Int) / 2 = (((p.1) / 2 : Nat) : Int) by omega]; exact u64w_lt _ (by omega))) ?_
                          refine WP.q B149.keep rfl rfl rfl rfl (fun w' hS => Ex.loadA ty31 rfl (h32_len (KnOk.h32 (by first | assumption | exact kn0_ok))) (M149.fp_rdt (j := 1) hS rfl (kn_g1 (by first | assumption | exact kn0_ok)) rfl)) ?_
                          refine WP.q B149.keep rfl rfl rfl rfl (fun w' hS => Ex.loadA ty31 rfl (h32_len (by first | assumption | exact h32_0)) (M149.fp_rdw (j := 0) hS rfl rfl)) ?_
                          refine WP.a rfl rfl rfl rfl (Ac.call rfl Tryd.func76 nm76 rfl (refNode_ok w149 _ _ hpo.h32 hoth (hR.keep0 M149.keep))) ?_; rintro v157 w157 ⟨rfl, K157⟩
                          have B157 := B149.step K157
                          refine .inr ⟨fun _ => B157.keep, ?_⟩
                          rw [hcm]
                          have M157 := M149.step K157
                          refine WP.p rfl rfl rfl rfl (fun _ => Ex.bldS bd126 (parts := [(0, .tmp 126), (1, .tmp 130)]) _ rfl rfl rfl (bldKn (cmb32 _ _ _))) ?_
                          refine WP.a rfl rfl rfl rfl (Ac.bs M157 (parts := [(0, .tmp 131)]) rfl rfl (LitS.agg1 el124 rfl (kn_len hko) (by decide))) ?_; rintro v159 w159 ⟨gs, rfl, hg159, K159, M159⟩
                          have B159 := B157.step K159
                          refine .inr ⟨fun _ => B159.keep, ?_⟩
                          refine WP.a rfl rfl rfl rfl (Ac.appT el124 (M159.get (i := 3) rfl) rfl rfl (by rw [kn_len hko]) (M159.rdw (i := 0) rfl) kn_one (by omega) (by unfold maxLen; omega)) ?_; rintro v160 w160 T160
                          have B160 := B159.turned (i := 0) rfl T160
                          refine .inr ⟨fun _ => B160.keep, ?_⟩
                          have M160 := M159.turned (i := 3) rfl T160
                          try dsimp only [List.set] at M160
                          rw [show List.flatMap knC up ++ knC (p.1 / 2, cmb p.1 p.2 oth) = List.flatMap knC (up ++ [(p.1 / 2, cmb p.1 p.2 oth)]) by simp, show List.length up + 1 = List.length (up ++ [(p.1 / 2, cmb p.1 p.2 oth)]) by simp] at M160
                          obtain ⟨Az, cz, rfl⟩ := own_slice (M160.get (i := 3) rfl)
                          obtain ⟨sk2, hrl2⟩ := hrl1.step hLs hpi hnf hout
                          have hup2 : ∀ q ∈ up ++ [(p.1 / 2, cmb p.1 p.2 oth)], KnOk q := fun q hq => by
                            rcases List.mem_append.1 hq with hq | hq
                            · exact hupok q hq
                            · obtain rfl := List.mem_singleton.1 hq
                              exact hko
                          refine WP.p rfl rfl rfl rfl (fun _ => Ex.asg rfl) ?_
                          refine WP.nil ?_
                          refine WX.normal_block (WX.next (?_))
                          refine WC.region ?_
                          refine WL.ex rfl rfl rfl (Ex.add rfl rfl (c := ((k + 1 : Nat) : Int)) (wrapN (by omega) (by omega))) ?_
                          refine qA ?_
                          refine WL.nil ?_
                          refine WX.again (((k + 1, Az, cz, up ++ [(p.1 / 2, cmb p.1 p.2 oth)], B3, c3, n3, sk2) : Nat × Option Addr × Nat × List Kn × Option Addr × Nat × Hs × Bool)) ?_ ?_ (.cons rfl (.cons rfl (.cons rfl (.cons rfl (.cons rfl (.cons rfl (.cons rfl (.cons rfl (.cons rfl (.cons rfl (.nil)))))))))))
                          · dsimp only; omega
                          · first
                              | exact ⟨by dsimp only; omega, hrl2, hup2, by simp; omega, hrB3, hcap3, hsub3, hn3l, (Mem.sub M160 (.cons _ (.cons _ (.cons _ (.refl _)))))⟩
                              | exact ⟨by dsimp only; omega, hrl2, hupok, by dsimp only; omega, hrB2, hcap2, hsub2, hn2l, (Mem.sub M160 (.cons _ (.cons _ (.cons _ (.refl _)))))⟩
                        · have hko : KnOk (p.1 / 2, cmb p.1 p.2 oth) := ⟨by show p.1 / 2 < _; omega, cmb32 _ _ _⟩
                          have hcm : dNode oth p.2 = cmb p.1 p.2 oth := (if_neg (by omega)).symm
                          have D164 := Keep.drew nof w144
                          have M164 := M144.step D164
                          refine WC.draw (Keep (FP M164 [2]) w144.drew) [] (.one 0 0 (.one 1 0 (.one 5 0 (.one 2 1 (.one 3 0 (.one 4 1 (.one 6 1 (.one 7 2 (.one 8 0 (.one 9 2 (.one 10 2 (.one 11 0 .nil)))))))))))) mixed (by kernel_rfl) (by kernel_rfl) (by kernel_rfl) (HQ.block (HQ.then_ (HQ.then_ (HQ.block (HQ.then_ (HQ.block (HQ.then_ (HQ.then_ (HQ.block (HQ.then_ HQ.body)))))))))) ?_
                          revert D164 M164; generalize w144.drew = w164; intro D164 M164
                          have B164 : Mem w164 w164 (FP M164 [2]) [_] := M164.base [2] (by decide)
                          refine qC ?_
                          refine WP.p rfl rfl rfl rfl (fun _ => Ex.fa fl126_0 rfl) ?_
                          refine WP.p rfl rfl rfl rfl (fun _ => Ex.fa fl126_1 rfl) ?_
                          refine WP.q B164.keep rfl rfl rfl rfl (fun w' hS => Ex.load ty23 rfl (M164.fp_cell (j := 1) hS rfl (kn_g0 (by first | assumption | exact kn0_ok)) rfl)) ?_
                          refine WP.p rfl rfl rfl rfl (fun _ => Ex.quo rfl rfl (by omega) (c := (((p.1) / 2 : Nat) : Int)) (by rw [Int.tdiv_eq_ediv_of_nonneg (by omega), show ((p.1 : Nat) : Int) / 2 = (((p.1) / 2 : Nat) : Int) by omega]; exact u64w_lt _ (by omega))) ?_
                          refine WP.q B164.keep rfl rfl rfl rfl (fun w' hS => Ex.loadA ty31 rfl (h32_len (by first | assumption | exact h32_0)) (M164.fp_rdw (j := 0) hS rfl rfl)) ?_
                          refine WP.q B164.keep rfl rfl rfl rfl (fun w' hS => Ex.loadA ty31 rfl (h32_len (KnOk.h32 (by first | assumption | exact kn0_ok))) (M164.fp_rdt (j := 1) hS rfl (kn_g1 (by first | assumption | exact kn0_ok)) rfl)) ?_
                          refine WP.a rfl rfl rfl rfl (Ac.call rfl Tryd.func76 nm76 rfl (refNode_ok w164 _ _ hoth hpo.h32 (hR.keep0 M164.keep))) ?_; rintro v172 w172 ⟨rfl, K172⟩
                          have B172 := B164.step K172
                          refine .inr ⟨fun _ => B172.keep, ?_⟩
                          rw [hcm]
                          have M172 := M164.step K172
                          refine WP.p rfl rfl rfl rfl (fun _ => Ex.bldS bd126 (parts := [(0, .tmp 137), (1, .tmp 141)]) _ rfl rfl rfl (bldKn (cmb32 _ _ _))) ?_
                          refine WP.a rfl rfl rfl rfl (Ac.bs M172 (parts := [(0, .tmp 142)]) rfl rfl (LitS.agg1 el124 rfl (kn_len hko) (by decide))) ?_; rintro v174 w174 ⟨gs, rfl, hg174, K174, M174⟩
                          have B174 := B172.step K174
                          refine .inr ⟨fun _ => B174.keep, ?_⟩
                          refine WP.a rfl rfl rfl rfl (Ac.appT el124 (M174.get (i := 3) rfl) rfl rfl (by rw [kn_len hko]) (M174.rdw (i := 0) rfl) kn_one (by omega) (by unfold maxLen; omega)) ?_; rintro v175 w175 T175
                          have B175 := B174.turned (i := 0) rfl T175
                          refine .inr ⟨fun _ => B175.keep, ?_⟩
                          have M175 := M174.turned (i := 3) rfl T175
                          try dsimp only [List.set] at M175
                          rw [show List.flatMap knC up ++ knC (p.1 / 2, cmb p.1 p.2 oth) = List.flatMap knC (up ++ [(p.1 / 2, cmb p.1 p.2 oth)]) by simp, show List.length up + 1 = List.length (up ++ [(p.1 / 2, cmb p.1 p.2 oth)]) by simp] at M175
                          obtain ⟨Az, cz, rfl⟩ := own_slice (M175.get (i := 3) rfl)
                          obtain ⟨sk2, hrl2⟩ := hrl1.step hLs hpi hnf hout
                          have hup2 : ∀ q ∈ up ++ [(p.1 / 2, cmb p.1 p.2 oth)], KnOk q := fun q hq => by
                            rcases List.mem_append.1 hq with hq | hq
                            · exact hupok q hq
                            · obtain rfl := List.mem_singleton.1 hq
                              exact hko
                          refine WP.p rfl rfl rfl rfl (fun _ => Ex.asg rfl) ?_
                          refine WP.nil ?_
                          refine WX.normal_block (WX.next (?_))
                          refine WC.region ?_
                          refine WL.ex rfl rfl rfl (Ex.add rfl rfl (c := ((k + 1 : Nat) : Int)) (wrapN (by omega) (by omega))) ?_
                          refine qA ?_
                          refine WL.nil ?_
                          refine WX.again (((k + 1, Az, cz, up ++ [(p.1 / 2, cmb p.1 p.2 oth)], B3, c3, n3, sk2) : Nat × Option Addr × Nat × List Kn × Option Addr × Nat × Hs × Bool)) ?_ ?_ (.cons rfl (.cons rfl (.cons rfl (.cons rfl (.cons rfl (.cons rfl (.cons rfl (.cons rfl (.cons rfl (.cons rfl (.nil)))))))))))
                          · dsimp only; omega
                          · first
                              | exact ⟨by dsimp only; omega, hrl2, hup2, by simp; omega, hrB3, hcap3, hsub3, hn3l, (Mem.sub M175 (.cons _ (.cons _ (.cons _ (.refl _)))))⟩
                              | exact ⟨by dsimp only; omega, hrl2, hupok, by dsimp only; omega, hrB2, hcap2, hsub2, hn2l, (Mem.sub M175 (.cons _ (.cons _ (.cons _ (.refl _)))))⟩
                  · obtain rfl : k = List.length L := by omega
                    have hfl := hrl1.fin
                    have hpls := rlv_places L n1 up n2 hfl
                    have hus : SI (List.map (fun p => p.1) up) := by
                      have h9 := ups_si hLs
                      rw [← hpls] at h9
                      exact h9
                    have hul := (ups_len (L.map (·.1))).2 (by rw [List.length_map]; exact hL0)
                    rw [← hpls, List.length_map] at hul
                    have hrt2 : rtop dn (List.zip xs ls) ns = rtop (dn - (q + 1)) up n2 := by
                      rw [hrt, show dn - q = dn - (q + 1) + 1 by omega, rtop, hfl]
                      rfl
                    obtain ⟨gu, rfl⟩ := own_some (M100.get (i := 0) rfl) hul
                    refine WC.exit ?_
                    refine WX.exit_then (WX.exit_then (WX.exit_block (WX.next (?_))))
                    refine WC.region ?_
                    refine qA ?_
                    refine qB ?_
                    refine WL.nil ?_
                    refine WX.normal_block (WX.next (?_))
                    refine WC.region ?_
                    refine WL.ex rfl rfl rfl (Ex.add rfl rfl (c := ((q + 1 : Nat) : Int)) (wrapN (by omega) (by omega))) ?_
                    refine qA ?_
                    refine WL.nil ?_
                    refine WX.again (((q + 1, gu, cu, up, B2, c2, n2) : Nat × Nat × Nat × List Kn × Option Addr × Nat × Hs)) ?_ ?_ (.cons rfl (.cons rfl (.cons rfl (.cons rfl (.cons rfl (.cons rfl (.nil)))))))
                    · dsimp only; omega
                    · exact ⟨by dsimp only; omega, hrt2, hus, hupok, by dsimp only; omega, by dsimp only; omega, hrB2, hcap2, hsub2, hn2l, (Mem.sub M100 (.cons_cons _ (.cons _ (.refl _))))⟩
                · have hrte : rtop dn (List.zip xs ls) ns = some (L, n1) := by rw [hrt, show dn - q = 0 by omega]; rfl
                  refine WC.exit ?_
                  refine WX.exit_then (WX.exit_then (WX.exit_block (WX.next (?_))))
                  refine WC.seq ?_
                  refine qD ?_
                  refine qA ?_
                  refine WL.ex rfl rfl rfl (Ex.len Tryd.underlying39 rfl) ?_
                  refine WL.ex rfl rfl rfl (Ex.gtr rfl rfl) ?_
                  refine qE ?_
                  refine WC.cond_dec rfl (fun h150 => ?_) (fun h150 => ?_)
                  · have hne : n1 ≠ [] := by intro e; rw [e] at h150; simp at h150
                    have hrf := root_long (d := (dn : Int)) hw0 hrte hne
                    refine qD ?_
                    refine WL.ex rfl rfl rfl (Ex.loadA ty31 rfl (l := bytesV z32) (h32_len h32_0) (M94.rdw (i := 1) rfl)) ?_
                    refine WL.ac0 rfl rfl (Ac.stA M94 ty31 rfl rfl (vs := bytesV z32) rfl (h32_len h32_0) (bytesV_one _) (i := 2) rfl (by rw [h32_len h32_0]; decide)) ?_; rintro v187 w187 ⟨K187, M187⟩
                    try dsimp only [List.set] at M187
                    rw [splice_all _ _ rfl] at M187
                    refine qB ?_
                    refine qE ?_
                    refine WC.ret ?_
                    refine WX.ret_then (?_)
                    refine WX.retn rfl (.cell rfl (run_loadVarA ty31 (h32_len (by first | assumption | exact h32_0)) (M187.rdw (i := 2) rfl)) (.tmp rfl .nil)) rfl ?_
                    rw [hrf]
                    exact ⟨rfl, M187.keep⟩
                  · have hne : n1 = [] := List.length_eq_zero_iff.1 (by omega)
                    rw [hne] at hrte
                    have hrf := root_some (d := (dn : Int)) hw0 hrte
                    obtain ⟨p, hpi⟩ : ∃ p, L[0]? = some p := ⟨_, List.getElem?_eq_getElem hL0⟩
                    have hpo := hLok p (List.mem_of_getElem? hpi)
                    have hp32 := hpo.h32
                    rw [show (L.map (·.2)).getD 0 z32 = p.2 by rw [List.getD_eq_getElem?_getD, List.getElem?_map, hpi]; rfl] at hrf
                    refine WC.skip ?_
                    refine WX.next ?_
                    refine qD ?_
                    refine qA ?_
                    refine WL.ex rfl rfl rfl (Ex.ia Tryd.underlying124 sz126 rfl rfl ⟨by omega, by omega⟩) ?_
                    refine WL.ex rfl rfl rfl (Ex.fa fl126_1 rfl) ?_
                    refine WL.ex rfl rfl rfl (Ex.loadA ty31 rfl (l := bytesV p.2) (h32_len hp32) (kn_part (M94.rdr (i := 0) rfl) hLok hpi (by simp))) ?_
                    refine WL.ac0 rfl rfl (Ac.stA M94 ty31 rfl rfl (vs := bytesV p.2) rfl (h32_len hp32) (bytesV_one _) (i := 2) rfl (by rw [h32_len hp32]; decide)) ?_; rintro v193 w193 ⟨K193, M193⟩
                    try dsimp only [List.set] at M193
                    rw [splice_all _ _ (by rw [h32_len hp32]; rfl)] at M193
                    refine qB ?_
                    refine qE ?_
                    refine WC.ret ?_
                    refine WX.retn rfl (.cell rfl (run_loadVarA ty31 (h32_len (by first | assumption | exact h32_0)) (M193.rdw (i := 2) rfl)) (.tmp rfl .nil)) rfl ?_
                    rw [hrf]
                    exact ⟨rfl, M193.keep⟩

end Go.Proofs.YtchmjpdkonfifaaDoor
