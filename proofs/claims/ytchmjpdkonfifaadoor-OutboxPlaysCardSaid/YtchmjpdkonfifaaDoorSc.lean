/- Walks, written by gen.py off the translation's own print: each says what the Go function comes to. -/
import Derived.Test.YtchmjpdkonfifaaDoorSb
set_option linter.unusedVariables false
set_option linter.unusedSimpArgs false
namespace Go.Proofs.YtchmjpdkonfifaaDoor
open Go.Sx Go.RowKit
attribute [local irreducible] Ac Ex WL WC WX WP Gives

theorem r16_snoc {a : List Nat} {i x : Nat} (h : a[i]? = some x) : r16 (a.take (i + 1)) = r16 (a.take i) ++ (d4 x).take 4 := by
  rw [take_snoc h]
  simp [r16, d4]

/- sponsion/sponsionref02.Row -/
theorem rRow_ok (w : World) (a : List Nat) (ha : Int4 a) :
    Gives Tryd.prog 51 #[.agg (intV a).toArray] w fun u w1 => ∃ l, Dig l ∧ dv l = v64 a ∧ l.length ≤ 16 ∧ New w w1 (row u 3 1 l.length (i64V l)) := by
  have M0 := (Mem.start w nof).free (r := row (.slice none 0 0) 3 1 0 []) (row_nil _ _ _) rfl
  refine Gives.enter (n := 24) Tryd.func51 rfl Tryd.ntmps51 rfl (env := [(0, .agg (intV a).toArray)]) rfl ?_
  refine WC.seq ?_
  refine WC.region ?_
  refine WL.ac rfl rfl rfl (Ac.box M0 rfl rfl) ?_; rintro v1 w1 ⟨ga, rfl, hg1, K1, M1⟩
  refine WL.ex rfl rfl rfl (Ex.asg rfl) ?_
  refine WL.nil ?_
  refine WX.next (?_)
  refine WC.seq ?_
  refine WC.region ?_
  refine WL.ex rfl rfl rfl (Ex.asg rfl) ?_
  refine WL.nil ?_
  refine WX.next (?_)
  refine WC.seq ?_
  refine WC.seq ?_
  refine WC.region ?_
  refine WL.ex rfl rfl rfl (Ex.loadA ty48 rfl (int4_len (by first | assumption | exact int4_0)) (M1.rdw (i := 0) rfl)) ?_
  refine WL.ex rfl rfl rfl (Ex.mv rfl) ?_
  refine WL.nil ?_
  refine WX.next (?_)
  refine WC.block ?_
  refine WC.loop (σ := Nat × Value) (fun s => [(3, s.2), (6, .agg (intV a).toArray), (7, .int .i64 (s.1 : Int))]) (fun s wr => s.1 ≤ 4 ∧ Mem w wr nof [row s.2 3 1 (4 * s.1) (i64V (r16 (a.take s.1)))]) (fun s => 4 - s.1) (((0, .slice none 0 0) : Nat × Value)) ?_ (.cons rfl (.cons rfl (.cons rfl (.nil)))) ?_
  · exact ⟨by simp, (Mem.sub M1 (.cons _ (.refl _)))⟩
  rintro ⟨i, v⟩ w6 ⟨hi, M6⟩
  dsimp only at hi M6
  refine WC.sub (env' := [(3, v), (6, .agg (intV a).toArray), (7, .int .i64 (i : Int))]) (.cons rfl (.cons rfl (.cons rfl (.nil)))) ?_
  refine WC.seq ?_
  refine WC.region ?_
  refine WL.ex rfl rfl rfl (Ex.lss rfl rfl) ?_
  refine WL.nil ?_
  refine WX.next (?_)
  refine WC.seq ?_
  refine WC.cond_dec rfl (fun hc8 => ?_) (fun hc8 => ?_)
  · obtain ⟨x, hx⟩ : ∃ x, a[i]? = some x := ⟨_, List.getElem?_eq_getElem (by rw [ha.1]; omega)⟩
    have hxl := ha.mem x (List.mem_of_getElem? hx)
    refine WC.skip ?_
    refine WX.next (?_)
    refine WC.seq ?_
    refine WC.block ?_
    refine WC.seq ?_
    refine WC.region ?_
    refine WL.ex rfl rfl rfl (Ex.ixA Tryd.underlying48 ty23 rfl rfl ⟨by omega, by omega⟩ (v := .int .u64 (x : Int)) (by simp only [Int.toNat_natCast, intV, List.getElem?_map, hx]; rfl)) ?_
    refine WL.ex rfl rfl rfl (Ex.asg rfl) ?_
    refine WL.nil ?_
    refine WX.next (?_)
    refine WC.seq ?_
    refine WC.region ?_
    refine WL.ex rfl rfl rfl (Ex.mv rfl) ?_
    refine WL.nil ?_
    refine WX.next (?_)
    refine WC.block ?_
    refine WC.loop (σ := Nat × Nat × Value) (fun s => [(3, s.2.2), (5, .int .u64 (s.2.1 : Int)), (6, .agg (intV a).toArray), (7, .int .i64 (i : Int)), (10, .int .i64 (s.1 : Int))]) (fun s wr => s.1 ≤ 4 ∧ s.2.1 = x / 65536 ^ s.1 ∧ Mem w wr nof [row s.2.2 3 1 (4 * i + s.1) (i64V (r16 (a.take i) ++ (d4 x).take s.1))]) (fun s => 4 - s.1) (((0, x, v) : Nat × Nat × Value)) ?_ (.cons rfl (.cons rfl (.cons rfl (.cons rfl (.cons rfl (.nil)))))) ?_
    · refine ⟨by simp, by simp, ?_⟩
      dsimp only
      rw [List.take_zero, List.append_nil]
      exact M6
    rintro ⟨k, q, u⟩ w11 ⟨hk, hq, M11⟩
    dsimp only at hk hq M11
    refine WC.sub (env' := [(3, u), (5, .int .u64 (q : Int)), (6, .agg (intV a).toArray), (7, .int .i64 (i : Int)), (10, .int .i64 (k : Int))]) (.cons rfl (.cons rfl (.cons rfl (.cons rfl (.cons rfl (.nil)))))) ?_
    refine WC.seq ?_
    refine WC.region ?_
    refine WL.ex rfl rfl rfl (Ex.lss rfl rfl) ?_
    refine WL.nil ?_
    refine WX.next (?_)
    refine WC.seq ?_
    refine WC.cond_dec rfl (fun hc11 => ?_) (fun hc11 => ?_)
    · have hqx : q ≤ x := by rw [hq]; exact Nat.div_le_self _ _
      have hd4 : (d4 x).take k ++ [q % 65536] = (d4 x).take (k + 1) := by rw [hq, d4_take x k (by omega)]
      refine WC.skip ?_
      refine WX.next (?_)
      refine WC.seq ?_
      refine WC.block ?_
      refine WC.seq ?_
      refine WC.region ?_
      refine WL.ex rfl rfl rfl (Ex.mv rfl) ?_
      refine WL.ex rfl rfl rfl (Ex.mv rfl) ?_
      refine WL.ex rfl rfl rfl (Ex.rem rfl rfl (by decide) (c := ((q % 65536 : Nat) : Int)) ((Int.ofNat_tmod q 65536).symm)) ?_
      refine WL.ex rfl rfl rfl (Ex.cvI Tryd.underlying23 Tryd.underlying3 rfl (i64w _ (by omega) (by omega))) ?_
      refine WL.ac rfl rfl rfl (Ac.bs M11 (parts := [(0, .tmp 15)]) (l := i64V [q % 65536]) rfl rfl (LitS.one el104 rfl)) ?_; rintro v17 w17 ⟨gs, rfl, hg17, K17, M17⟩
      refine WL.ac rfl rfl rfl (Ac.app M17 el104 rfl rfl (i := 1) rfl (by simp) (M17.rdw (i := 0) rfl) (i64V_one [q % 65536]) (by omega) (by unfold maxLen; omega)) ?_; rintro v18 w18 ⟨K18, M18⟩
      try dsimp only [List.set] at M18
      rw [← i64V_app, List.append_assoc, hd4] at M18
      refine WL.ex rfl rfl rfl (Ex.asg rfl) ?_
      refine WL.nil ?_
      refine WX.next (?_)
      refine WC.region ?_
      refine WL.ex rfl rfl rfl (Ex.mv rfl) ?_
      refine WL.ex rfl rfl rfl (Ex.quo rfl rfl (by decide) (c := ((q / 65536 : Nat) : Int)) (u64quo _ 65536 (by omega))) ?_
      refine WL.ex rfl rfl rfl (Ex.asg rfl) ?_
      refine WL.nil ?_
      refine WX.normal_block (WX.next (?_))
      refine WC.region ?_
      refine WL.ex rfl rfl rfl (Ex.add rfl rfl (i64w _ (by omega) (by omega))) ?_
      refine WL.ex rfl rfl rfl (Ex.mv rfl) ?_
      refine WL.nil ?_
      refine WX.again (((k + 1, q / 65536, v18) : Nat × Nat × Value)) ?_ ?_ (.cons rfl (.cons rfl (.cons rfl (.cons rfl (.cons rfl (.nil))))))
      · dsimp only; omega
      · exact ⟨by dsimp only; omega, by dsimp only; rw [hq, Nat.div_div_eq_div_mul, ← Nat.pow_succ], (Mem.sub M18 (.cons _ (.refl _)))⟩
    · obtain rfl : k = 4 := by omega
      refine WC.exit ?_
      refine WX.exit_then (WX.exit_then (WX.exit_block (WX.normal_block (WX.next (?_)))))
      refine WC.region ?_
      refine WL.ex rfl rfl rfl (Ex.add rfl rfl (i64w _ (by omega) (by omega))) ?_
      refine WL.ex rfl rfl rfl (Ex.mv rfl) ?_
      refine WL.nil ?_
      refine WX.again (((i + 1, u) : Nat × Value)) ?_ ?_ (.cons rfl (.cons rfl (.cons rfl (.nil))))
      · dsimp only; omega
      · refine ⟨by dsimp only; omega, ?_⟩
        dsimp only
        rw [r16_snoc hx, show 4 * (i + 1) = 4 * i + 4 by omega]
        exact M11
  · obtain rfl : i = 4 := by omega
    rw [List.take_of_length_le (by rw [ha.1]; omega)] at M6
    refine WC.exit ?_
    refine WX.exit_then (WX.exit_then (WX.exit_block (WX.next (?_))))
    refine WC.seq ?_
    refine WC.region ?_
    obtain ⟨Ao, co, rfl⟩ := own_slice (M6.get (i := 0) rfl)
    have hco := own_cap2 (M6.get (i := 0) rfl)
    refine WL.ex rfl rfl rfl (Ex.mv rfl) ?_
    refine WL.ac rfl rfl rfl (Ac.call rfl Tryd.func84 nm84 rfl ((by
      have hx := trim_ok w6 Ao co (r16 a) (M6.rdr (i := 0) rfl) (by rw [r16_len, ha.1]; exact hco.1) hco.2
      rw [r16_len, ha.1] at hx
      exact hx))) ?_; rintro v28 w28 ⟨q, hq, rfl, K28⟩
    have M28 := M6.step K28
    refine WL.ex rfl rfl rfl (Ex.asg rfl) ?_
    refine WL.nil ?_
    refine WX.next (?_)
    refine WC.ret ?_
    refine WX.ret1 rfl rfl ?_
    have hql := hq.le
    rw [r16_len, ha.1] at hql
    have Mx := M28.cutI (i := 0) rfl hql
    refine ⟨(r16 a).take q, dig_take (r16_dig a) q, by rw [hq.val, r16_val ha.mem], by rw [List.length_take, r16_len, ha.1]; omega, ?_⟩
    rw [List.length_take, r16_len, ha.1, Nat.min_eq_left hql]
    exact (Mem.sub Mx (.cons_cons _ (List.nil_sublist _))).toNew

/- sponsion/sponsionref02.Int -/
theorem rInt2_ok (w : World) (A : Option Addr) (c : Nat) (l : List Nat) (hr : Rd w A (i64V l)) (hd : Dig l) (hc : l.length ≤ c) (hcm : c ≤ maxLen) :
    Gives Tryd.prog 52 #[.slice A l.length c] w fun u w1 => u = .tuple #[.agg (intV (sumI (dv l)).1).toArray, .bool (decide (dv l < M256))] ∧ Keep nof w w1 := by
  have M0 := Mem.start w nof
  refine Gives.enter (n := 34) Tryd.func52 rfl Tryd.ntmps52 rfl (env := [(0, .slice A l.length c)]) rfl ?_
  refine WC.seq ?_
  refine WC.region ?_
  refine WL.ac rfl rfl rfl (Ac.alloc M0 (l := intV [0, 0, 0, 0]) (by kernel_rfl)) ?_; rintro v1 w1 ⟨gr, rfl, hg1, K1, M1⟩
  refine WL.ex rfl rfl rfl (Ex.asg rfl) ?_
  refine WL.nil ?_
  refine WX.next (?_)
  refine WC.seq ?_
  refine WC.region ?_
  refine WL.ex rfl rfl rfl (Ex.mv rfl) ?_
  refine WL.ac rfl rfl rfl (Ac.call rfl Tryd.func84 nm84 rfl (trim_ok w1 A c l (M1.rd hr) hc hcm)) ?_; rintro v4 w4 ⟨q, hq, rfl, K4⟩
  have M4 := M1.step K4
  have hql := hq.le
  unfold maxLen at hcm
  refine WL.ex rfl rfl rfl (Ex.asg rfl) ?_
  refine WL.nil ?_
  refine WX.next (?_)
  refine WC.seq ?_
  refine WC.seq ?_
  refine WC.region ?_
  refine WL.ex rfl rfl rfl (Ex.mv rfl) ?_
  refine WL.ex rfl rfl rfl (Ex.len Tryd.underlying104 rfl) ?_
  refine WL.ex rfl rfl rfl (Ex.gtr rfl rfl) ?_
  refine WL.nil ?_
  refine WX.next (?_)
  refine WC.cond_dec rfl (fun h10 => ?_) (fun h10 => ?_)
  · have hbig : ¬ dv l < M256 := by have := hq.big (by omega); omega
    have hfin := sumI_1 hbig
    have hdec : decide (dv l < M256) = false := decide_eq_false hbig
    refine WC.seq ?_
    refine WC.region ?_
    refine WL.ex rfl rfl rfl (Ex.bld bd48 (parts := []) (l := intV [0, 0, 0, 0]) rfl rfl rfl rfl) ?_
    refine WL.ac0 rfl rfl (Ac.stA M4 ty48 rfl rfl rfl (int4_len (by first | assumption | exact int4_0)) (intV_one _) (i := 0) rfl (by first | (rw [int4_len (by first | assumption | exact int4_0), int4_len (by first | assumption | exact int4_0)]; decide) | (rw [int4_len (by first | assumption | exact int4_0)]; decide) | rw [int4_len (by first | assumption | exact int4_0)])) ?_; rintro v10 w10 ⟨K10, M10⟩
    try dsimp only [List.set] at M10
    rw [splice_all _ _ (by first | rw [int4_len (by first | assumption | exact int4_0), int4_len (by first | assumption | exact int4_0)] | rw [int4_len (by first | assumption | exact int4_0)])] at M10
    refine WL.ex rfl rfl rfl (Ex.asg rfl) ?_
    refine WL.nil ?_
    refine WX.next (?_)
    refine WC.ret ?_
    refine WX.ret_then (?_)
    refine WX.retn rfl (.cell rfl (run_loadVarA ty48 (int4_len (by first | assumption | exact int4_0)) (M10.rdw (i := 0) rfl)) (.tmp rfl .nil)) rfl ?_
    rw [hfin, hdec]
    exact ⟨rfl, M10.keep⟩
  · have hsm := hq.small hd (by omega)
    have hdec : decide (dv l < M256) = true := decide_eq_true hsm
    obtain ⟨m, hm⟩ : ∃ m, m = l.take q := ⟨_, rfl⟩
    have hmd : Dig m := by rw [hm]; exact dig_take hd q
    have hml : m.length = q := by rw [hm, List.length_take]; omega
    have hfin : sumI (dv l) = (ogs m 0, 0) := by rw [sumI_0 hsm, ← hq.val, ← hm, ogs_lm4 hmd (by omega)]
    have hog := ogs_ok hmd 0
    refine WC.skip ?_
    refine WX.next (?_)
    refine WC.seq ?_
    refine WC.region ?_
    refine WL.ac rfl rfl rfl (Ac.alloc M4 (l := intV [0, 0, 0, 0]) (by kernel_rfl)) ?_; rintro v12 w12 ⟨go, rfl, hg12, K12, M12⟩
    refine WL.nil ?_
    refine WX.next (?_)
    refine WC.seq ?_
    refine WC.seq ?_
    refine WC.region ?_
    refine WL.ex rfl rfl rfl (Ex.mv rfl) ?_
    refine WL.ex rfl rfl rfl (Ex.len Tryd.underlying104 rfl) ?_
    refine WL.ex rfl rfl rfl (Ex.sub rfl rfl (i64w _ (by omega) (by omega))) ?_
    refine WL.ex rfl rfl rfl (Ex.asg rfl) ?_
    refine WL.nil ?_
    refine WX.next (?_)
    refine WC.block ?_
    refine WC.loop (σ := Nat) (fun i => [(0, .slice A q c), (2, .pointer (some ⟨gr, 0, none⟩)), (4, .pointer (some ⟨go, 0, none⟩)), (5, .int .i64 ((i : Int) - 1))]) (fun i wr => i ≤ q ∧ Mem w wr nof [blk go (intV (ogs m i)) 48, blk gr (intV [0, 0, 0, 0]) 48]) (fun i => i) (q) ?_ (.cons rfl (.cons rfl (.cons rfl (.cons rfl (.nil))))) ?_
    · refine ⟨Nat.le_refl _, ?_⟩
      rw [ogs_end (by omega)]
      exact M12
    rintro i w17 ⟨hi, M17⟩
    refine WC.seq ?_
    refine WC.seq ?_
    refine WC.region ?_
    refine WL.ex rfl rfl rfl (Ex.mv rfl) ?_
    refine WL.ex rfl rfl rfl (Ex.geq rfl rfl) ?_
    refine WL.nil ?_
    refine WX.next (?_)
    refine WC.cond_dec rfl (fun hc16 => ?_) (fun hc16 => ?_)
    · obtain ⟨j, rfl⟩ : ∃ j, i = j + 1 := ⟨i - 1, by omega⟩
      obtain ⟨x, hx⟩ : ∃ x, l[j]? = some x := ⟨_, List.getElem?_eq_getElem (by omega)⟩
      have hxm : m[j]? = some x := by rw [hm, List.getElem?_take, if_pos (by omega)]; exact hx
      have hxl := hd x (List.mem_of_getElem? hx)
      obtain ⟨bA, oA, hA, _⟩ := hr.plain (by rw [i64V_length]; omega)
      subst hA
      have hgl := ogs_get hmd (i := j) (by omega)
      have hset := ogs_set hxm (by omega)
      have hol := (ogs_ok hmd (j + 1)).1
      obtain ⟨y, hy⟩ : ∃ y, y = (ogs m (j + 1)).getD (j / 4) 0 := ⟨_, rfl⟩
      rw [← hy] at hgl hset
      have hj1 : (((j + 1 : Nat) : Int) - 1) = (j : Int) := by omega
      refine WC.skip ?_
      refine WX.next (?_)
      refine WC.seq ?_
      refine WC.block ?_
      refine WC.draw (Keep nof w17.drew) [14] (.one 0 0 (.one 1 0 (.one 2 0 (.one 3 0 (.one 4 0 (.one 7 0 (.one 8 0 (.one 9 0 (.one 5 1 (.one 6 0 (.one 10 1 (.one 11 0 (.one 12 0 (.one 13 0 (.one 14 2 .nil))))))))))))))) mixed (by kernel_rfl) (by kernel_rfl) (by kernel_rfl) (HQ.block (HQ.then_ (HQ.then_ (HQ.block (HQ.then_ HQ.body))))) ?_
      obtain ⟨w20, hw20⟩ : ∃ v, v = w17.drew := ⟨_, rfl⟩
      have D20 : Keep nof w17 w20 := by rw [hw20]; exact Keep.drew _ _
      have M20 := M17.step D20
      rw [← hw20]; clear hw20
      refine WP.p rfl rfl rfl rfl (fun _ => Ex.mv rfl) ?_
      refine WP.p rfl rfl rfl rfl (fun _ => Ex.quo rfl rfl (by decide) (c := ((j / 4 : Nat) : Int)) (by rw [hj1, show (j : Int).tdiv 4 = ((j / 4 : Nat) : Int) from (Int.ofNat_tdiv j 4).symm]; exact i64w _ (by omega) (by omega))) ?_
      refine WP.p rfl rfl rfl rfl (fun _ => Ex.mv rfl) ?_
      refine WP.p rfl rfl rfl rfl (fun _ => Ex.quo rfl rfl (by decide) (c := ((j / 4 : Nat) : Int)) (by rw [hj1, show (j : Int).tdiv 4 = ((j / 4 : Nat) : Int) from (Int.ofNat_tdiv j 4).symm]; exact i64w _ (by omega) (by omega))) ?_
      refine WP.p rfl rfl rfl rfl (fun _ => Ex.iaA Tryd.underlying48 sz23 rfl rfl ⟨by omega, by omega⟩) ?_
      refine WP.p rfl rfl rfl rfl (fun _ => Ex.mv rfl) ?_
      refine WP.p rfl rfl rfl rfl (fun _ => Ex.mv rfl) ?_
      refine WP.p rfl rfl rfl rfl (fun _ => Ex.ia Tryd.underlying104 sz3 rfl rfl ⟨by omega, by omega⟩) ?_
      refine WP.q (Keep.refl _ _) rfl rfl rfl rfl (fun w' hS => Ex.load ty23 rfl (hS.cell (M20.cell (i := 0) rfl (v := .int .u64 ((y : Nat) : Int)) (by simp only [Int.toNat_natCast, Nat.mul_one, Nat.zero_add]; rw [hy]; exact intV_get (by rw [hol]; omega))) (fun f => f))) ?_
      refine WP.p rfl rfl rfl rfl (fun _ => Ex.mul rfl rfl (c := ((y * 65536 : Nat) : Int)) (by rw [show (y : Int) * 65536 = ((y * 65536 : Nat) : Int) by omega]; exact u64w_lt _ (by omega))) ?_
      refine WP.q (Keep.refl _ _) rfl rfl rfl rfl (fun w' hS => Ex.load ty3 rfl (by have hq := (((M20.rd hr)).keep0 hS).at1 (i64V_get hx); simpa using hq)) ?_
      refine WP.p rfl rfl rfl rfl (fun _ => Ex.cvI Tryd.underlying3 Tryd.underlying23 rfl (u64w_lt _ (by omega))) ?_
      refine WP.p rfl rfl rfl rfl (fun _ => Ex.add rfl rfl (c := ((y * 65536 + x : Nat) : Int)) (by rw [← Int.natCast_add]; exact u64w_lt _ (by omega))) ?_
      refine WP.p rfl rfl rfl rfl (fun _ => Ex.iaA Tryd.underlying48 sz23 rfl rfl ⟨by omega, by omega⟩) ?_
      refine WP.a0 rfl rfl rfl (Ac.st M20 ty23 rfl rfl rfl (i := 0) rfl (by rw [intV_length, hol]; simp only [Int.toNat_natCast, Nat.mul_one, Nat.zero_add]; omega)) ?_; rintro v35 w35 ⟨K35, M35⟩; refine .inl ⟨rfl, Keep nof w35, ?_⟩
      try dsimp only [List.set] at M35
      simp only [Int.toNat_natCast, Nat.mul_one, Nat.zero_add] at M35
      rw [intV_set, hset] at M35
      refine WP.nil ?_
      refine WX.normal_block (WX.next (?_))
      refine WC.region ?_
      refine WL.ex rfl rfl rfl (Ex.mv rfl) ?_
      refine WL.ex rfl rfl rfl (Ex.sub rfl rfl (c := ((j : Int) - 1)) (by rw [hj1]; exact i64w _ (by omega) (by omega))) ?_
      refine WL.ex rfl rfl rfl (Ex.asg rfl) ?_
      refine WL.nil ?_
      refine WX.again (j) ?_ ?_ (.cons rfl (.cons rfl (.cons rfl (.cons rfl (.nil)))))
      · (try dsimp only); omega
      · exact ⟨by omega, M35⟩
    · obtain rfl : i = 0 := by omega
      refine WC.exit ?_
      refine WX.exit_then (WX.exit_then (WX.exit_block (WX.next (?_))))
      refine WC.seq ?_
      refine WC.region ?_
      refine WL.ex rfl rfl rfl (Ex.loadA ty48 rfl (int4_len (by first | assumption | exact int4_0)) (M17.rdw (i := 0) rfl)) ?_
      refine WL.ac0 rfl rfl (Ac.stA M17 ty48 rfl rfl rfl (int4_len (by first | assumption | exact int4_0)) (intV_one _) (i := 1) rfl (by first | (rw [int4_len (by first | assumption | exact int4_0), int4_len (by first | assumption | exact int4_0)]; decide) | (rw [int4_len (by first | assumption | exact int4_0)]; decide) | rw [int4_len (by first | assumption | exact int4_0)])) ?_; rintro v40 w40 ⟨K40, M40⟩
      try dsimp only [List.set] at M40
      rw [splice_all _ _ (by first | rw [int4_len (by first | assumption | exact int4_0), int4_len (by first | assumption | exact int4_0)] | rw [int4_len (by first | assumption | exact int4_0)])] at M40
      refine WL.ex rfl rfl rfl (Ex.asg rfl) ?_
      refine WL.nil ?_
      refine WX.next (?_)
      refine WC.ret ?_
      refine WX.retn rfl (.cell rfl (run_loadVarA ty48 (int4_len (by first | assumption | exact int4_0)) (M40.rdw (i := 1) rfl)) (.tmp rfl .nil)) rfl ?_
      rw [hfin, hdec]
      exact ⟨rfl, M40.keep⟩

end Go.Proofs.YtchmjpdkonfifaaDoor
