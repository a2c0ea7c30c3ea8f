/- Walks, written by gen.py off the translation's own print: each says what the Go function comes to. -/
import Derived.Test.YtchmjpdkonfifaaDoorYp
import Derived.Test.YtchmjpdkonfifaaDoorYr
import Derived.Test.YtchmjpdkonfifaaDoorAl
set_option linter.unusedVariables false
set_option linter.unusedSimpArgs false
namespace Go.Proofs.YtchmjpdkonfifaaDoor
open Go.Sx Go.RowKit
attribute [local irreducible] Ac Ex WL WC WX WP Gives sha

theorem _root_.Go.Sx.Ex.eqIf {P : Program} {n : Nat} {env : Env} {w : World} {dst : Option Nat} {ty : TypeId} {pos : String} {aft : Array Edge} {g : Option (Nat × Bool)} {t t' : TypeId} {x y : Operand} {k : IntKind} {p q : Int} (hx : ev env x = some (.int k p)) (hy : ev env y = some (.int k q)) (h : p ≠ q) :
    Ex P n env (Oper.mk dst (.binOp .eql t x y t') ty pos aft g) (.bool false) w := by
  have h1 := Ex.eqI (P := P) (n := n) (w := w) (dst := dst) (ty := ty) (pos := pos) (aft := aft) (g := g) (t := t) (t' := t') hx hy
  rwa [decide_eq_false h] at h1
theorem check_z {d : Int} {xs : List Nat} {ns ls : Hs} {n : Nat} {rt : List UInt8} (h : (rootF d xs ns ls).2 = 0) (h2 : ¬ n ≤ mxp xs xs.length) (h3 : (rootF d xs ns ls).1 = rt) : checkF d xs ns ls rt n = 0 := by rw [checkF, if_neg (not_not_intro h), if_neg h2, if_neg (not_not_intro h3)]
theorem zip_map (f : Nat → List UInt8) : ∀ zs : List Nat, zs.zip (zs.map f) = zs.map fun i => (i, f i)
  | [] => rfl
  | z :: zs => by rw [List.map_cons, List.zip_cons_cons, zip_map f zs, List.map_cons]
theorem nd_0 {ls : Hs} {n i : Nat} (hi : i < n) (hn : n ≤ ls.length) : nd dNode e0 (ls.take n) 0 i = ls.getD i z32 := by
  show (ls.take n).getD i e0 = _
  rw [List.getD_eq_getElem?_getD, List.getD_eq_getElem?_getD, List.getElem?_take_of_lt hi, List.getElem?_eq_getElem (by omega)]
  rfl
/-- A bundle that is made leads to the root. -/
theorem root_tree {d n : Nat} {ls : Hs} {zs : List Nat} (hs : SI zs) (h0 : 0 < zs.length) (hz : ∀ z ∈ zs, z < n) (hn : n ≤ ls.length) (hl : ls.length ≤ 2 ^ d) (hd : d ≤ 32) :
    rootF (d : Int) zs (sibs (fun q0 q1 => nd dNode e0 (ls.take n) q0 q1) d 0 zs) (zs.map fun i => ls.getD i z32) = (nd dNode e0 (ls.take n) d 0, 0) := by
  have hlt : ∀ z ∈ zs, z < 2 ^ d := fun z h => by have := hz z h; omega
  have hw : wrongF (d : Int) zs ((zs.map fun i => ls.getD i z32).length : Nat) = 0 := wrong_in (by omega) (by omega) (si_pw hs) (by simp) (by
    rw [Bool.not_eq_true, List.any_eq_false]
    intro z h
    have := hlt z h
    rw [Int.toNat_natCast]
    simp
    omega)
  have hmap : (zs.map fun i => (i, ls.getD i z32)) = zs.map fun i => (i, nd dNode e0 (ls.take n) 0 i) := List.map_congr_left fun i hi => by rw [nd_0 (hz i hi) hn]
  have ht := rtop_tree (ls.take n) d 0 zs [] (si_pw hs) (List.length_pos_iff.1 h0) hlt
  rw [List.append_nil, Nat.zero_add] at ht
  have hr := root_some (d := (d : Int)) (xs := zs) (ls := zs.map fun i => ls.getD i z32) (ns := sibs (fun q0 q1 => nd dNode e0 (ls.take n) q0 q1) d 0 zs) (o := [(0, nd dNode e0 (ls.take n) d 0)]) hw (by
    rw [zip_map, hmap, Int.toNat_natCast]
    exact ht)
  exact hr
theorem fill_take {α : Type} {n i : Nat} {f : Nat → α} {z : α} (h : i ≤ n) : (fillTo n i f z).take i = (List.range i).map f := by
  rw [fillTo, ← List.map_take, List.take_range, Nat.min_eq_left h]
  exact List.map_congr_left fun k hk => if_pos (List.mem_range.1 hk)
theorem lt_mxp {xs : List Nat} {n : Nat} (h0 : 0 < xs.length) (h : ∀ x ∈ xs, x < n) : ¬ n ≤ mxp xs xs.length := by
  obtain ⟨k, hk, e⟩ := mxp_at xs xs.length h0
  have := h _ (gv_mem hk)
  omega
theorem sib_pf {ls : Hs} {n d y : Nat} : sibs (fun q0 q1 => nd dNode e0 (ls.take n) q0 q1) d 0 [y] = (List.range d).map (pF ls n y) := by
  rw [sibs_one]
  exact List.map_congr_left fun k _ => by rw [Nat.zero_add]; rfl
theorem fl_prf (l : Hs) : fl l = prfC l := rfl
theorem map_sn {zs : List Nat} {k : Nat} (f : Nat → List UInt8) (h : k < zs.length) : (zs.take (k + 1)).map f = (zs.take k).map f ++ [f (gv zs k)] := by rw [take_snoc (gv_get h), List.map_append]; rfl

/- sponsion/sponsionlaw33.MultiStands -/
theorem multiStands_walk (w : World) (x : Nat) (A : Option Addr) (c : Nat) (ls0 : Hs) (n0 : Nat) (B : Option Addr) (c2 : Nat) (xs : List Nat) (hx : x < 256) (hr0 : Rd w A (fl ls0)) (hls0 : ∀ a ∈ ls0, H32 a) (hc : ls0.length ≤ c) (hcm : c ≤ maxLen) (hr : Rd w B (u64V xs)) (hxs : ∀ v ∈ xs, v < 18446744073709551616) (hT : Tabs w) :
    Gives Tryd.prog 9 #[.int .u8 (x : Int), .slice A ls0.length c, .int .u64 (n0 : Int), .slice B xs.length c2] w fun u w1 => u = .bool true ∧ Keep nof w w1 := by
  have M0 := Mem.start w nof
  obtain ⟨d, hd⟩ : ∃ d, d = x % 33 := ⟨_, rfl⟩
  have hd32 : d ≤ 32 := by omega
  have hp2 := pow32 hd32
  have hxg := gv_lt hxs (by decide)
  refine Gives.enter (n := 179) Tryd.func9 rfl Tryd.ntmps9 rfl (env := [(0, .int .u8 (x : Int)), (1, .slice A ls0.length c), (2, .int .u64 (n0 : Int)), (3, .slice B xs.length c2)]) rfl ?_
  refine qD ?_
  refine qB ?_
  refine qE ?_
  refine WC.seq ?_
  refine qD ?_
  refine WL.ac rfl rfl rfl (Ac.call rfl Tryd.func29 nm29 rfl (lives33_ok w (hT.keep M0.keep))) ?_; rintro v2 w2 ⟨rfl, K2⟩
  have M2 := M0.step K2
  refine WL.ex rfl rfl rfl (Ex.not rfl) ?_
  refine qA ?_
  refine WL.yes rfl rfl rfl rfl ?_
  refine qA ?_
  refine WL.yes rfl rfl rfl rfl ?_
  refine WL.ex rfl rfl rfl (Ex.len Tryd.underlying67 rfl) ?_
  refine WL.yes rfl rfl rfl rfl ?_
  refine WL.ex rfl rfl rfl (Ex.gtr rfl rfl) ?_
  refine WL.ex rfl rfl rfl (Ex.pickF rfl rfl) ?_
  refine qE ?_
  refine WC.cond_dec rfl (fun hc32 => ?_) (fun hc32 => ?_)
  · skip
    refine qD ?_
    refine WL.ac rfl rfl rfl (Ac.call rfl Tryd.func29 nm29 rfl (lives33_ok w2 (hT.keep M2.keep))) ?_; rintro v9 w9 ⟨rfl, K9⟩
    have M9 := M2.step K9
    refine qB ?_
    refine qE ?_
    refine WC.ret ?_
    refine WX.ret_then (?_)
    refine WX.ret1 rfl rfl ?_
    exact ⟨rfl, M9.keep⟩
  · have hn20 : xs.length ≤ 20 := by omega
    refine WC.skip ?_
    refine WX.next ?_
    refine qD ?_
    refine qA ?_
    refine qA ?_
    refine WL.ac rfl rfl rfl (Ac.call rfl Tryd.func30 nm30 rfl (made33_ok w2 x A c ls0 hx (M2.rd hr0) hls0 hc hcm (hT.keep M2.keep))) ?_; rintro v13 w13 ⟨g, gl, ge, vs, ls, rfl, hlse, N13⟩
    rw [← hd] at hlse N13 ⊢
    have M13 := (M2.new N13).openS
    obtain ⟨q, hq⟩ : ∃ q, q = min (min ls0.length 20) (2 ^ d) := ⟨_, rfl⟩
    rw [← hq] at hlse
    have hlq : ls.length = q := by rw [hlse, List.length_take]; omega
    have hls : ∀ a ∈ ls, H32 a := by rw [hlse]; exact take32 hls0 q
    have hrl : Rd w A (fl ls) := by rw [hlse, fl_take hls0]; exact hr0.take _
    have hl20 : ls.length ≤ 20 := by omega
    have hld : ls.length ≤ 2 ^ d := by omega
    have hlc : ls.length ≤ c := by omega
    obtain ⟨n, hn⟩ : ∃ n, n = n0 % (ls.length + 1) := ⟨_, rfl⟩
    have hnl : n ≤ ls.length := by
      have := Nat.mod_lt n0 (show 0 < ls.length + 1 by omega)
      omega
    refine qA ?_
    refine WL.ex rfl rfl rfl (Ex.ext rfl rfl) ?_
    refine WL.ex rfl rfl rfl (Ex.ext rfl rfl) ?_
    refine WL.ex rfl rfl rfl (Ex.ext rfl rfl) ?_
    refine qB ?_
    refine qB ?_
    refine qB ?_
    refine qE ?_
    refine qD ?_
    refine qA ?_
    refine qA ?_
    refine WL.ex rfl rfl rfl (Ex.len Tryd.underlying39 rfl) ?_
    refine WL.ex rfl rfl rfl (Ex.add rfl rfl (c := ((ls.length + 1 : Nat) : Int)) (wrapN (by omega) (by omega))) ?_
    refine WL.ex rfl rfl rfl (Ex.cvI Tryd.underlying3 Tryd.underlying23 rfl (c := ((ls.length + 1 : Nat) : Int)) (u64w_lt _ (by omega))) ?_
    refine WL.ex rfl rfl rfl (Ex.rem rfl rfl (by omega) (c := ((n : Nat) : Int)) (by rw [hn]; exact tmodT _ _)) ?_
    refine qB ?_
    refine qE ?_
    refine WC.seq ?_
    refine qD ?_
    refine qA ?_
    refine WL.ex rfl rfl rfl (Ex.eqI rfl rfl) ?_
    by_cases h51 : (n : Int) = 0
    · rw [decide_eq_true h51]
      refine qA ?_
      refine WL.no rfl rfl rfl rfl rfl rfl ?_
      refine WL.no rfl rfl rfl rfl rfl rfl ?_
      refine WL.no rfl rfl rfl rfl rfl rfl ?_
      refine WL.ex rfl rfl rfl (Ex.pickT rfl rfl) ?_
      refine qE ?_
      refine WC.yes rfl ?_
      refine qD ?_
      refine qB ?_
      refine qE ?_
      refine WC.ret ?_
      refine WX.ret_then (?_)
      refine WX.ret1 rfl rfl ?_
      exact ⟨rfl, M13.keep⟩
    · rw [decide_eq_false h51]
      have hn1 : 1 ≤ n := by omega
      refine qA ?_
      refine WL.yes rfl rfl rfl rfl ?_
      refine qA ?_
      refine WL.yes rfl rfl rfl rfl ?_
      refine WL.ex rfl rfl rfl (Ex.len Tryd.underlying67 rfl) ?_
      refine WL.yes rfl rfl rfl rfl ?_
      refine WL.ex rfl rfl rfl (Ex.eqI rfl rfl) ?_
      refine WL.ex rfl rfl rfl (Ex.pickF rfl rfl) ?_
      refine qE ?_
      refine WC.cond_dec rfl (fun h53 => ?_) (fun h53 => ?_)
      · skip
        refine qD ?_
        refine qB ?_
        refine qE ?_
        refine WC.ret ?_
        refine WX.ret_then (?_)
        refine WX.ret1 rfl rfl ?_
        exact ⟨rfl, M13.keep⟩
      · have hxp : 1 ≤ xs.length := by omega
        obtain ⟨ys, hys⟩ : ∃ ys, ys = xs.map (· % n) := ⟨_, rfl⟩
        have hyl : ys.length = xs.length := by rw [hys]; simp
        have hyn : ∀ v ∈ ys, v < n := by
          intro v hv
          rw [hys] at hv
          obtain ⟨u, _, rfl⟩ := List.mem_map.1 hv
          exact Nat.mod_lt _ (by omega)
        have hyg := gv_lt (B := 18446744073709551616) (fun v hv => by have := hyn v hv; omega) (by decide)
        refine WC.skip ?_
        refine WX.next ?_
        refine qD ?_
        refine qB ?_
        refine qE ?_
        refine WC.seq ?_
        refine qD ?_
        refine qA ?_
        refine WL.ex rfl rfl rfl (Ex.len Tryd.underlying67 rfl) ?_
        refine qA ?_
        refine qE ?_
        refine WC.block ?_
        refine WC.loop (σ := Nat × Value) (fun s => [(2, .int .u64 (n : Int)), (9, .int .i64 (d : Int)), (10, .slice A (List.length ls) c), (11, .pointer (some ⟨g, 0, none⟩)), (12, s.2), (54, .slice B xs.length c2), (55, .int .i64 (xs.length : Int)), (56, .int .i64 (s.1 : Int))]) (fun s wr => s.1 ≤ xs.length ∧ Mem w wr nof [row s.2 23 1 (List.length ((xs.take s.1).map (· % n))) (u64V ((xs.take s.1).map (· % n))), blk ge (fl (emps dNode e0 (d + 1))) 31, treeR g gl ge d vs (lvOf dNode e0 d (ls))]) (fun s => xs.length - s.1) (((0, .slice none 0 0) : Nat × Value)) ?_ (.cons rfl (.cons rfl (.cons rfl (.cons rfl (.cons rfl (.cons rfl (.cons rfl (.cons rfl (.nil))))))))) ?_
        · have Ma := M13.free (r := row (.slice none 0 0) 23 1 0 []) (row_nil _ _ _) rfl
          exact ⟨by simp, Ma.pick [0, 0 + 1, 1 + 1] (by decide) rfl⟩
        rintro ⟨i, v⟩ w43 ⟨hi, M43⟩
        dsimp only at hi M43
        refine WC.sub (env' := [(2, .int .u64 (n : Int)), (9, .int .i64 (d : Int)), (10, .slice A (List.length ls) c), (11, .pointer (some ⟨g, 0, none⟩)), (12, v), (54, .slice B xs.length c2), (55, .int .i64 (xs.length : Int)), (56, .int .i64 (i : Int))]) (.cons rfl (.cons rfl (.cons rfl (.cons rfl (.cons rfl (.cons rfl (.cons rfl (.cons rfl (.nil))))))))) ?_
        refine qD ?_
        refine WL.ex rfl rfl rfl (Ex.lss rfl rfl) ?_
        refine qE ?_
        refine WC.seq ?_
        refine WC.cond_dec rfl (fun hc57 => ?_) (fun hc57 => ?_)
        · obtain ⟨b0, o0, hA, _⟩ := hr.plain (by simp; omega)
          subst hA
          have hml : ((xs.take i).map (· % n)).length = i := by simp; omega
          have hms : (xs.take (i + 1)).map (· % n) = (xs.take i).map (· % n) ++ [gv xs i % n] := map_snoc _ (by omega)
          refine WC.skip ?_
          refine WX.next ?_
          refine WC.seq ?_
          refine WC.block ?_
          refine qD ?_
          refine WL.ex rfl rfl rfl (Ex.ia Tryd.underlying67 sz23 rfl rfl ⟨by omega, by omega⟩) ?_
          refine WL.ex rfl rfl rfl (Ex.load ty23 rfl (u64_at (M43.rd hr) (k := i) (by omega) (by omega))) ?_
          refine qB ?_
          refine qE ?_
          refine WC.region ?_
          refine qA ?_
          refine qA ?_
          refine qA ?_
          refine WL.ex rfl rfl rfl (Ex.rem rfl rfl (by omega) (c := ((gv xs i % n : Nat) : Int)) (tmodT _ _)) ?_
          refine WL.ac rfl rfl rfl (Ac.bs M43 (parts := [(0, .tmp 63)]) (l := u64V [gv xs i % n]) rfl rfl (LitS.one el67 rfl)) ?_; rintro v52 w52 ⟨gs, rfl, hg52, K52, M52⟩
          refine WL.ac rfl rfl rfl (Ac.app M52 el67 rfl rfl (i := 1) rfl (by simp) (M52.rdw (i := 0) rfl) (u64V_one _) (by omega) (by unfold maxLen; omega)) ?_; rintro v53 w53 ⟨K53, M53⟩
          try dsimp only [List.set] at M53
          rw [← u64V_append, show ((xs.take i).map (· % n)).length + 1 = ((xs.take i).map (· % n) ++ [gv xs i % n]).length by simp, ← hms] at M53
          refine qB ?_
          refine WL.nil ?_
          refine WX.normal_block (WX.next (?_))
          refine WC.region ?_
          refine WL.ex rfl rfl rfl (Ex.add rfl rfl (i64w _ (by omega) (by omega))) ?_
          refine qA ?_
          refine WL.nil ?_
          refine WX.again (((i + 1, v53) : Nat × Value)) ?_ ?_ (.cons rfl (.cons rfl (.cons rfl (.cons rfl (.cons rfl (.cons rfl (.cons rfl (.cons rfl (.nil)))))))))
          · dsimp only; omega
          · exact ⟨by dsimp only; omega, (Mem.sub M53 (.cons _ (.refl _)))⟩
        · obtain rfl : i = xs.length := by omega
          rw [List.take_length, ← hys] at M43
          obtain ⟨Ay, cy, rfl⟩ := own_slice (M43.get (i := 0) rfl)
          obtain ⟨gy, rfl⟩ := own_some (M43.get (i := 0) rfl) (by omega)
          obtain ⟨RT, hRT⟩ : ∃ RT, RT = nd dNode e0 (ls.take n) d 0 := ⟨_, rfl⟩
          have hRT32 : H32 RT := by rw [hRT]; exact nd32 (take32 hls n) d 0
          have hroot : tNode d ls n ((d : Nat) : Int) 0 = (RT, true) := tNode_yes (k := d) (by omega) (Nat.le_refl _) (Nat.zero_div _) hRT.symm
          obtain ⟨y, hy⟩ : ∃ y, y = gv ys 0 := ⟨_, rfl⟩
          have hyn1 : y < n := by rw [hy]; exact hyn _ (gv_mem (by omega))
          refine WC.exit ?_
          refine WX.exit_then (WX.exit_then (WX.exit_block (WX.next (?_))))
          refine qD ?_
          refine qA ?_
          refine qA ?_
          refine qA ?_
          refine WL.ac rfl rfl rfl (Ac.call rfl Tryd.func40 nm40 rfl (tNode_ok w43 g gl ge d vs ls n (d : Int) 0 (TreeS.of (M43.get (i := 2) rfl) (lvOf_len _ _)) (ES.of (M43.get (i := 1) rfl)) hls (by omega) (by omega) (by decide) hd32 (hT.keep M43.keep))) ?_; rintro v60 w60 ⟨rfl, K60⟩
          rw [hroot]
          have M60 := M43.step K60
          refine qA ?_
          refine WL.ex rfl rfl rfl (Ex.ext rfl rfl) ?_
          refine WL.ex rfl rfl rfl (Ex.ext rfl rfl) ?_
          refine WL.ac rfl rfl rfl (Ac.alloc M60 (l := bytesV (List.replicate 32 0)) (by kernel_rfl)) ?_; rintro v64 w64 ⟨grt, rfl, hg64, K64, M64⟩
          refine WL.ac0 rfl rfl (Ac.stA M64 ty31 rfl rfl rfl (h32_len (by first | assumption | exact h32_0)) (bytesV_one _) (i := 0) rfl (by first | (rw [h32_len (by first | assumption | exact h32_0), h32_len (by first | assumption | exact h32_0)]; decide) | (rw [h32_len (by first | assumption | exact h32_0)]; decide) | rw [h32_len (by first | assumption | exact h32_0)])) ?_; rintro v65 w65 ⟨K65, M65⟩
          try dsimp only [List.set] at M65
          rw [splice_all _ _ (by first | rw [h32_len (by first | assumption | exact h32_0), h32_len (by first | assumption | exact h32_0)] | rw [h32_len (by first | assumption | exact h32_0)])] at M65
          refine qB ?_
          refine qE ?_
          refine qD ?_
          refine qA ?_
          refine qA ?_
          refine qA ?_
          refine WL.ac rfl rfl rfl (Ac.call rfl Tryd.func31 nm31 rfl (make_ok w65 g gl ge d n cy vs ls (some ⟨gy, 0, none⟩) ys (M65.get (i := 3) rfl) (M65.get (i := 2) rfl) hls (by omega) (by omega) hd32 (hT.keep M65.keep) (M65.rdr (i := 1) rfl) hyg (by omega))) ?_; rintro v70 w70 ⟨va, vb, e, zs, hs, rfl, N70, hq⟩
          have M70 := (M65.new N70).openS
          obtain ⟨Aa, ca, rfl⟩ := own_slice (M70.get (i := 0) rfl)
          obtain ⟨Ab, cb, rfl⟩ := own_slice (M70.get (i := 1) rfl)
          rw [if_neg (show ¬ ls.length < n by omega), if_neg (show ¬ ys.length = 0 by omega), if_neg (lt_mxp (by omega) hyn)] at hq
          obtain ⟨he, hri, hhs⟩ := hq
          subst he
          have hzn : ∀ v ∈ zs, v < n := fun v hv => hyn v ((hri.mem v).1 hv)
          have hzd : ∀ v ∈ zs, v < 2 ^ d := fun v hv => by have := hzn v hv; omega
          have hzl := hri.le
          have hzp := hri.pos
          have hhs2 := hhs.trans (sibs_ref hri.si hzd hnl)
          have hhl : List.length hs = cnt d zs := by rw [hhs, sibs_len]
          have hcl : cnt d zs ≤ d * List.length zs := cnt_le d zs
          have hcl2 : d * List.length zs ≤ 32 * 20 := Nat.mul_le_mul hd32 (by omega)
          have hs32 : ∀ a ∈ hs, H32 a := by rw [hhs2]; exact sibs32 (take32 hls n) d 0 zs
          obtain ⟨ga, rfl⟩ := own_some (M70.get (i := 0) rfl) hzp
          refine qA ?_
          refine WL.ex rfl rfl rfl (Ex.ext rfl rfl) ?_
          refine WL.ex rfl rfl rfl (Ex.ext rfl rfl) ?_
          refine WL.ac rfl rfl rfl (Ac.alloc M70 (l := [.slice none 0 0, .slice none 0 0]) (by kernel_rfl)) ?_; rintro v74 w74 ⟨gb, rfl, hg74, K74, M74⟩
          refine WL.ac0 rfl rfl (Ac.stA M74 ty72 rfl rfl (vs := [.slice (some ⟨ga, 0, none⟩) (List.length zs) ca, .slice Ab (List.length hs) cb]) rfl rfl (by intro u hu; simp at hu; rcases hu with rfl | rfl <;> rfl) (i := 0) rfl (by simp)) ?_; rintro v75 w75 ⟨K75, M75⟩
          try dsimp only [List.set] at M75
          try dsimp only [List.set] at M75
          rw [splice_all _ _ (by simp)] at M75
          refine qB ?_
          refine qE ?_
          refine qD ?_
          refine qA ?_
          refine qA ?_
          refine qA ?_
          refine WL.ex rfl rfl rfl (Ex.ia Tryd.underlying67 sz23 rfl rfl ⟨by omega, by omega⟩) ?_
          refine WL.ex rfl rfl rfl (Ex.load ty23 rfl (u64_at (M75.rdr (i := 4) rfl) (k := 0) (by omega) (by simp))) ?_
          rw [← hy]
          refine WL.ac rfl rfl rfl (Ac.bs M75 (parts := [(0, .tmp 86)]) (l := u64V [y]) rfl rfl (LitS.one el67 rfl)) ?_; rintro v82 w82 ⟨gone, rfl, hg82, K82, M82⟩
          refine WL.ac rfl rfl rfl (Ac.call rfl Tryd.func31 nm31 rfl (make_ok w82 g gl ge d n 1 vs ls (some ⟨gone, 0, none⟩) [y] (M82.get (i := 7) rfl) (M82.get (i := 6) rfl) hls (by omega) (by omega) hd32 (hT.keep M82.keep) (M82.rdw (i := 0) rfl) (gv_lt (B := 18446744073709551616) (fun v hv => by obtain rfl := List.mem_singleton.1 hv; omega) (by decide)) (by simp))) ?_; rintro v83 w83 ⟨va1, vb1, e1, zs1, hs1, rfl, N83, hq1⟩
          have M83 := (M82.new N83).openS
          obtain ⟨Aa1, ca1, rfl⟩ := own_slice (M83.get (i := 0) rfl)
          obtain ⟨Ab1, cb1, rfl⟩ := own_slice (M83.get (i := 1) rfl)
          rw [if_neg (show ¬ ls.length < n by omega), if_neg (show ¬ (List.length [y] = 0) by simp), if_neg (lt_mxp (by simp) (by simpa using hyn1))] at hq1
          obtain ⟨he, hri1, hhs1⟩ := hq1
          subst he
          obtain rfl := rise0 hri1
          have hhs12 := hhs1.trans (sibs_ref (si_of_pw (by simp)) (by simp; omega) hnl)
          have hhl1 : List.length hs1 = d := by rw [hhs1, sibs_len]; exact cnt_one d y
          have hs132 : ∀ a ∈ hs1, H32 a := by rw [hhs12]; exact sibs32 (take32 hls n) d 0 [y]
          refine qA ?_
          refine WL.ex rfl rfl rfl (Ex.ext rfl rfl) ?_
          refine WL.ex rfl rfl rfl (Ex.ext rfl rfl) ?_
          refine WL.ac rfl rfl rfl (Ac.alloc M83 (l := [.slice none 0 0, .slice none 0 0]) (by kernel_rfl)) ?_; rintro v87 w87 ⟨gb1, rfl, hg87, K87, M87⟩
          refine WL.ac0 rfl rfl (Ac.stA M87 ty72 rfl rfl (vs := [.slice Aa1 (List.length [y]) ca1, .slice Ab1 (List.length hs1) cb1]) rfl rfl (by intro u hu; simp at hu; rcases hu with rfl | rfl <;> rfl) (i := 0) rfl (by simp)) ?_; rintro v88 w88 ⟨K88, M88⟩
          try dsimp only [List.set] at M88
          try dsimp only [List.set] at M88
          rw [splice_all _ _ (by simp)] at M88
          refine qB ?_
          refine qE ?_
          refine qD ?_
          have hmkE : mkE ls n y = 0 := by rw [mkE, if_neg (by omega), if_neg (by omega)]
          have hmkQ : mkQ d ls n y = mkP d ls n y := if_pos hmkE
          have hpo : PrfOk (mkP d ls n y) := fillP_ok hls n y d
          have hptk : (mkP d ls n y).take d = hs1 := by rw [hhs1, sibs_ref (si_of_pw (by simp)) (by simp; omega) (by omega), sib_pf]; exact fill_take (by omega)
          refine qA ?_
          refine qA ?_
          refine qA ?_
          refine WL.ex rfl rfl rfl (Ex.ia Tryd.underlying67 sz23 rfl rfl ⟨by omega, by omega⟩) ?_
          refine WL.ex rfl rfl rfl (Ex.load ty23 rfl (u64_at (M88.rdr (i := 8) rfl) (k := 0) (by omega) (by simp))) ?_
          rw [← hy]
          refine WL.ac rfl rfl rfl (Ac.call rfl Tryd.func41 nm41 rfl (pMake_ok w88 g gl ge d vs ls n y (TreeS.of (M88.get (i := 10) rfl) (lvOf_len _ _)) (ES.of (M88.get (i := 9) rfl)) hls hld (by omega) (by omega) hd32 (hT.keep M88.keep))) ?_; rintro v95 w95 ⟨rfl, K95⟩
          rw [hmkE, hmkQ]
          have M95 := M88.step K95
          refine qA ?_
          refine WL.ex rfl rfl rfl (Ex.ext rfl rfl) ?_
          refine WL.ex rfl rfl rfl (Ex.ext rfl rfl) ?_
          refine WL.ac rfl rfl rfl (Ac.alloc M95 (l := prfC prf0) (by kernel_rfl)) ?_; rintro v99 w99 ⟨gP, rfl, hg99, K99, M99⟩
          refine WL.ac0 rfl rfl (Ac.stA M99 ty34 rfl rfl rfl (prf_len (by first | assumption | exact prf0_ok)) (prf_one) (i := 0) rfl (by first | (rw [prf_len (by first | assumption | exact prf0_ok), prf_len (by first | assumption | exact prf0_ok)]; decide) | (rw [prf_len (by first | assumption | exact prf0_ok)]; decide) | rw [prf_len (by first | assumption | exact prf0_ok)])) ?_; rintro v100 w100 ⟨K100, M100⟩
          try dsimp only [List.set] at M100
          rw [splice_all _ _ (by first | rw [prf_len (by first | assumption | exact prf0_ok), prf_len (by first | assumption | exact prf0_ok)] | rw [prf_len (by first | assumption | exact prf0_ok)])] at M100
          refine qB ?_
          refine qE ?_
          refine WC.seq ?_
          refine WC.seq ?_
          refine WC.draw (Keep nof w100.drew) [] (.one 0 0 (.one 1 0 (.one 2 0 (.one 3 0 (.one 4 0 (.one 5 0 (.one 6 0 (.one 7 0 (.one 8 0 (.one 9 0 (.one 10 0 (.one 11 0 (.one 12 0 (.one 13 0 (.one 14 0 (.one 15 0 (.one 16 1 (.one 17 0 (.one 18 0 (.one 19 0 (.one 20 0 (.one 21 0 (.one 24 0 (.one 25 0 (.one 22 1 (.one 23 0 (.one 26 1 (.one 27 0 (.one 28 0 (.one 29 0 (.one 30 0 (.one 31 0 (.one 32 0 (.one 34 0 (.one 35 0 (.one 33 1 (.one 36 2 (.one 37 0 (.one 38 0 .nil))))))))))))))))))))))))))))))))))))))) mixed (by kernel_rfl) (by kernel_rfl) (by kernel_rfl) (HQ.then_ (HQ.then_ HQ.body)) ?_
          obtain ⟨w102, hw102⟩ : ∃ v, v = w100.drew := ⟨_, rfl⟩
          have D102 : Keep nof w100 w102 := by rw [hw102]; exact Keep.drew _ _
          have M102 := M100.step D102
          rw [← hw102]; clear hw102
          refine qC ?_
          refine WP.p rfl rfl rfl rfl (fun _ => Ex.not rfl) ?_
          refine qC ?_
          
          refine WP.py rfl rfl rfl rfl rfl rfl (fun _ => Ex.mv rfl) ?_
          refine WP.py rfl rfl rfl rfl rfl rfl (fun _ => Ex.neIf rfl rfl (rfl)) ?_
          refine WP.p rfl rfl rfl rfl (fun _ => Ex.pickF rfl rfl) ?_
          refine qC ?_
          refine WP.py rfl rfl rfl rfl rfl rfl (fun _ => Ex.mv rfl) ?_
          refine WP.py rfl rfl rfl rfl rfl rfl (fun _ => Ex.neIf rfl rfl (rfl)) ?_
          refine WP.p rfl rfl rfl rfl (fun _ => Ex.pickF rfl rfl) ?_
          refine qC ?_
          refine WP.py rfl rfl rfl rfl rfl rfl (fun _ => Ex.mv rfl) ?_
          refine WP.py rfl rfl rfl rfl rfl rfl (fun _ => Ex.neIf rfl rfl (rfl)) ?_
          refine WP.p rfl rfl rfl rfl (fun _ => Ex.pickF rfl rfl) ?_
          refine qC ?_
          refine WP.py rfl rfl rfl rfl rfl rfl (fun _ => Ex.fa fl72_0 rfl) ?_
          refine WP.qy (Keep.refl _ _) rfl rfl rfl rfl rfl rfl (fun w' hS => Ex.load ty67 rfl (hS.cell (M102.cell (i := 5) (v := .slice (some ⟨ga, 0, none⟩) (List.length zs) ca) rfl rfl) (fun f => f))) ?_
          refine WP.py rfl rfl rfl rfl rfl rfl (fun _ => Ex.len Tryd.underlying67 rfl) ?_
          refine WP.py rfl rfl rfl rfl rfl rfl (fun _ => Ex.eqIf rfl rfl (by omega)) ?_
          refine WP.p rfl rfl rfl rfl (fun _ => Ex.pickF rfl rfl) ?_
          refine qC ?_
          refine WP.py rfl rfl rfl rfl rfl rfl (fun _ => Ex.fa fl72_1 rfl) ?_
          refine WP.py rfl rfl rfl rfl rfl rfl (fun _ => Ex.mv rfl) ?_
          refine WP.py rfl rfl rfl rfl rfl rfl (fun _ => Ex.fa fl72_0 rfl) ?_
          refine WP.qy (Keep.refl _ _) rfl rfl rfl rfl rfl rfl (fun w' hS => Ex.load ty39 rfl (hS.cell (M102.cell (i := 5) (v := .slice Ab (List.length hs) cb) rfl rfl) (fun f => f))) ?_
          refine WP.py rfl rfl rfl rfl rfl rfl (fun _ => Ex.len Tryd.underlying39 rfl) ?_
          refine WP.qy (Keep.refl _ _) rfl rfl rfl rfl rfl rfl (fun w' hS => Ex.load ty67 rfl (hS.cell (M102.cell (i := 5) (v := .slice (some ⟨ga, 0, none⟩) (List.length zs) ca) rfl rfl) (fun f => f))) ?_
          refine WP.py rfl rfl rfl rfl rfl rfl (fun _ => Ex.len Tryd.underlying67 rfl) ?_
          refine WP.py rfl rfl rfl rfl rfl rfl (fun _ => Ex.mul rfl rfl (c := ((d * List.length zs : Nat) : Int)) (wrapN (by omega) (by omega))) ?_
          refine WP.py rfl rfl rfl rfl rfl rfl (fun _ => Ex.gtr rfl rfl) ?_
          rw [decide_eq_false (by omega)]
          refine WP.p rfl rfl rfl rfl (fun _ => Ex.pickF rfl rfl) ?_
          refine qC ?_
          refine WP.py rfl rfl rfl rfl rfl rfl (fun _ => Ex.fa fl72_1 rfl) ?_
          refine WP.py rfl rfl rfl rfl rfl rfl (fun _ => Ex.mv rfl) ?_
          refine WP.py rfl rfl rfl rfl rfl rfl (fun _ => Ex.slAh Tryd.underlying34 sz31 rfl rfl (Int.natCast_nonneg _) (by omega)) ?_
          rw [Int.toNat_natCast]
          refine WP.qy (Keep.refl _ _) rfl rfl rfl rfl rfl rfl (fun w' hS => Ex.load ty39 rfl (hS.cell (M102.cell (i := 1) (v := .slice Ab1 (List.length hs1) cb1) rfl rfl) (fun f => f))) ?_
          refine WP.ays rfl rfl rfl rfl rfl rfl (Ac.call rfl Tryd.func34 nm34 rfl ((by
            have hx9 := same_ok w102 Ab1 (some ⟨gP, 0, none⟩) cb1 32 hs1 ((mkP d ls n y).take d) (M102.rdr (i := 3) rfl) (by rw [fl_take (fun a ha => hpo.mem a ha)]; exact Rd.take (M102.rdw (i := 0) rfl) _) hs132 (take32 (fun a ha => hpo.mem a ha) d) (by omega) (by rw [List.length_take, hpo.len]; omega)
            rw [show ((mkP d ls n y).take d).length = d by rw [List.length_take, hpo.len]; omega] at hx9
            exact hx9))) ?_; rintro v139 w139 ⟨rfl, K139⟩
          refine ⟨Keep nof w139, fun u h => K139.trans h, Keep.refl _ _, ?_⟩
          rw [decide_eq_true hptk.symm]
          have M139 := M102.step K139
          refine WP.py rfl rfl rfl rfl rfl rfl (fun _ => Ex.not rfl) ?_
          refine WP.p rfl rfl rfl rfl (fun _ => Ex.pickF rfl rfl) ?_
          refine WP.nil ?_
          refine WX.next ?_
          refine WC.no rfl ?_
          refine WC.skip ?_
          refine WX.next ?_
          refine qD ?_
          refine qB ?_
          refine qE ?_
          refine WC.seq ?_
          refine qD ?_
          refine WL.ex rfl rfl rfl (Ex.fa fl72_0 rfl) ?_
          refine WL.ex rfl rfl rfl (Ex.load ty67 rfl (M139.cell (i := 5) (v := .slice (some ⟨ga, 0, none⟩) (List.length zs) ca) rfl rfl)) ?_
          refine WL.ex rfl rfl rfl (Ex.len Tryd.underlying67 rfl) ?_
          refine qA ?_
          refine qE ?_
          refine WC.block ?_
          refine WC.loop (σ := Nat × Value) (fun s => [(2, .int .u64 (n : Int)), (9, .int .i64 (d : Int)), (10, .slice A (List.length ls) c), (12, .slice (some ⟨gy, 0, none⟩) (List.length ys) cy), (15, .pointer (some ⟨grt, 0, none⟩)), (17, .pointer (some ⟨gb, 0, none⟩)), (19, .pointer (some ⟨gb1, 0, none⟩)), (23, s.2), (140, .slice (some ⟨ga, 0, none⟩) (List.length zs) ca), (141, .int .i64 (List.length zs : Int)), (142, .int .i64 (s.1 : Int))]) (fun s wr => s.1 ≤ List.length zs ∧ Mem w wr nof [row s.2 31 32 (List.length (List.map (fun i => List.getD ls i z32) (List.take (s.1) zs))) (fl (List.map (fun i => List.getD ls i z32) (List.take (s.1) zs))), blk gb [.slice (some ⟨ga, 0, none⟩) (List.length zs) ca, .slice Ab (List.length hs) cb] 72, row (.slice (some ⟨ga, 0, none⟩) (List.length zs) ca) 23 1 (List.length zs) (u64V zs), row (.slice Ab (List.length hs) cb) 31 32 (List.length hs) (fl hs), blk gb1 [.slice Aa1 (List.length [y]) ca1, .slice Ab1 (List.length hs1) cb1] 72, row (.slice Aa1 (List.length [y]) ca1) 23 1 (List.length [y]) (u64V [y]), row (.slice Ab1 (List.length hs1) cb1) 31 32 (List.length hs1) (fl hs1), row (.slice (some ⟨gy, 0, none⟩) (List.length ys) cy) 23 1 (List.length ys) (u64V ys), blk grt (bytesV RT) 31]) (fun s => List.length zs - s.1) (((0, .slice none 0 0) : Nat × Value)) ?_ (.cons rfl (.cons rfl (.cons rfl (.cons rfl (.cons rfl (.cons rfl (.cons rfl (.cons rfl (.cons rfl (.cons rfl (.cons rfl (.nil)))))))))))) ?_
          · have Ma := M139.free (r := row (.slice none 0 0) 31 32 0 []) (row_nil _ _ _) rfl
            exact ⟨by simp, Ma.pick [0, 5 + 1, 6 + 1, 7 + 1, 1 + 1, 2 + 1, 3 + 1, 9 + 1, 8 + 1] (by decide) rfl⟩
          rintro ⟨k, v⟩ w147 ⟨hk, M147⟩
          dsimp only at hk M147
          refine WC.sub (env' := [(2, .int .u64 (n : Int)), (9, .int .i64 (d : Int)), (10, .slice A (List.length ls) c), (12, .slice (some ⟨gy, 0, none⟩) (List.length ys) cy), (15, .pointer (some ⟨grt, 0, none⟩)), (17, .pointer (some ⟨gb, 0, none⟩)), (19, .pointer (some ⟨gb1, 0, none⟩)), (23, v), (140, .slice (some ⟨ga, 0, none⟩) (List.length zs) ca), (141, .int .i64 (List.length zs : Int)), (142, .int .i64 (k : Int))]) (.cons rfl (.cons rfl (.cons rfl (.cons rfl (.cons rfl (.cons rfl (.cons rfl (.cons rfl (.cons rfl (.cons rfl (.cons rfl (.nil)))))))))))) ?_
          refine qD ?_
          refine WL.ex rfl rfl rfl (Ex.lss rfl rfl) ?_
          refine qE ?_
          refine WC.seq ?_
          refine WC.cond_dec rfl (fun hc143 => ?_) (fun hc143 => ?_)
          · obtain ⟨bl, ol, hAl, _⟩ := hrl.plain (by rw [fl_len hls]; omega)
            subst hAl
            have hzk := hzn _ (gv_mem (show k < List.length zs by omega))
            have hg32 : H32 (List.getD ls (gv zs k) z32) := getD_32 hls (by omega)
            have hstl : List.length (List.map (fun i => List.getD ls i z32) (List.take (k) zs)) = k := by simp; omega
            have hsts := map_sn (fun i => List.getD ls i z32) (show k < List.length zs by omega)
            refine WC.skip ?_
            refine WX.next ?_
            refine WC.seq ?_
            refine WC.block ?_
            refine qD ?_
            refine WL.ex rfl rfl rfl (Ex.ia Tryd.underlying67 sz23 rfl rfl ⟨by omega, by omega⟩) ?_
            refine WL.ex rfl rfl rfl (Ex.load ty23 rfl (u64_at (M147.rdr (i := 2) rfl) (k := k) (by omega) (by omega))) ?_
            refine qB ?_
            refine qE ?_
            refine WC.seq ?_
            refine qD ?_
            refine qA ?_
            refine qA ?_
            refine WL.ex rfl rfl rfl (Ex.geq rfl rfl) ?_
            rw [decide_eq_false (by omega)]
            refine qE ?_
            refine WC.no rfl ?_
            refine WC.skip ?_
            refine WX.next ?_
            refine WC.region ?_
            refine qA ?_
            refine qA ?_
            refine qA ?_
            refine WL.ex rfl rfl rfl (Ex.ia Tryd.underlying39 sz31 rfl rfl ⟨by omega, by omega⟩) ?_
            refine WL.ex rfl rfl rfl (Ex.loadA ty31 rfl (l := bytesV (List.getD ls (gv zs k) z32)) (h32_len hg32) (fl_at (i := gv zs k) (M147.rd hrl) hls (getD_get (by omega)) (by simp))) ?_
            refine WL.ac rfl rfl rfl (Ac.bs M147 (parts := [(0, .tmp 153)]) rfl rfl (LitS.agg1 el39 rfl (h32_len hg32) (by decide))) ?_; rintro v160 w160 ⟨gs, rfl, hg160, K160, M160⟩
            refine WL.ac rfl rfl rfl (Ac.app M160 el39 rfl rfl (i := 1) rfl (by rw [h32_len hg32]) (M160.rdw (i := 0) rfl) (bytesV_one _) (by omega) (by unfold maxLen; omega)) ?_; rintro v161 w161 ⟨K161, M161⟩
            try dsimp only [List.set] at M161
            rw [show fl (List.map (fun i => List.getD ls i z32) (List.take (k) zs)) ++ bytesV (List.getD ls (gv zs k) z32) = fl (List.map (fun i => List.getD ls i z32) (List.take (k + 1) zs)) by rw [hsts]; simp [fl], show List.length (List.map (fun i => List.getD ls i z32) (List.take (k) zs)) + 1 = List.length (List.map (fun i => List.getD ls i z32) (List.take (k + 1) zs)) by rw [hsts]; simp] at M161
            refine qB ?_
            refine WL.nil ?_
            refine WX.normal_block (WX.next (?_))
            refine WC.region ?_
            refine WL.ex rfl rfl rfl (Ex.add rfl rfl (c := ((k + 1 : Nat) : Int)) (wrapN (by omega) (by omega))) ?_
            refine qA ?_
            refine WL.nil ?_
            refine WX.again (((k + 1, v161) : Nat × Value)) ?_ ?_ (.cons rfl (.cons rfl (.cons rfl (.cons rfl (.cons rfl (.cons rfl (.cons rfl (.cons rfl (.cons rfl (.cons rfl (.cons rfl (.nil))))))))))))
            · dsimp only; omega
            · exact ⟨by dsimp only; omega, (Mem.sub M161 (.cons _ (.refl _)))⟩
          · obtain rfl : k = List.length zs := by omega
            rw [List.take_length] at M147
            obtain ⟨Ast, cst, rfl⟩ := own_slice (M147.get (i := 0) rfl)
            have hstl : List.length (List.map (fun i => List.getD ls i z32) zs) = List.length zs := by simp
            refine WC.exit ?_
            refine WX.exit_then (WX.exit_then (WX.exit_block (WX.next (?_))))
            refine WC.seq ?_
            refine WC.draw (Keep nof w147.drew) [5] (.one 1 0 (.one 3 0 (.one 4 0 (.one 0 1 (.one 2 1 (.one 5 2 (.one 6 0 (.one 7 0 (.one 9 0 (.one 11 0 (.one 12 0 (.one 13 0 (.one 14 0 (.one 8 1 (.one 10 1 (.one 15 1 (.one 16 0 (.one 17 1 (.one 18 2 (.one 19 2 (.one 20 0 (.one 21 0 (.one 22 0 .nil))))))))))))))))))))))) mixed (by kernel_rfl) (by kernel_rfl) (by kernel_rfl) (HQ.then_ HQ.body) ?_
            obtain ⟨w165, hw165⟩ : ∃ v, v = w147.drew := ⟨_, rfl⟩
            have D165 : Keep nof w147 w165 := by rw [hw165]; exact Keep.drew _ _
            have M165 := M147.step D165
            rw [← hw165]; clear hw165
            refine qC ?_
            refine qC ?_
            refine qC ?_
            obtain ⟨bl, ol, hAl, _⟩ := hrl.plain (by rw [fl_len hls]; omega)
            subst hAl
            have hst32 : ∀ a ∈ List.map (fun i => List.getD ls i z32) zs, H32 a := fun a ha => by
              obtain ⟨i, _, rfl⟩ := List.mem_map.1 ha
              exact getD32 hls i
            have hy32 : H32 (List.getD ls y z32) := getD32 hls y
            have hck : checkF (d : Int) zs hs (List.map (fun i => List.getD ls i z32) zs) RT n = 0 := by
              have hrt := root_tree (d := d) hri.si hri.pos hzn hnl hld hd32
              rw [← hhs2] at hrt
              exact check_z (by rw [hrt]) (lt_mxp hri.pos hzn) (by rw [hrt, hRT])
            have hck1 : checkF (d : Int) [y] hs1 [List.getD ls y z32] RT n = 0 := by
              have hrt := root_tree (d := d) (zs := [y]) (si_of_pw (by simp)) (by simp) (by simpa using hyn1) hnl hld hd32
              rw [← hhs12] at hrt
              have hrt2 : rootF (d : Int) [y] hs1 [List.getD ls y z32] = (nd dNode e0 (ls.take n) d 0, 0) := hrt
              exact check_z (by rw [hrt2]) (lt_mxp (by simp) (by simpa using hyn1)) (by rw [hrt2, hRT])
            have hzg := gv_lt (B := 18446744073709551616) (fun v hv => by have := hzn v hv; omega) (by decide)
            have hcb := own_cap (M165.get (i := 3) rfl)
            have hcb1 := own_cap (M165.get (i := 6) rfl)
            refine WP.q (Keep.refl _ _) rfl rfl rfl rfl (fun w' hS => Ex.loadA ty72 rfl (l := [.slice (some ⟨ga, 0, none⟩) (List.length zs) ca, .slice Ab (List.length hs) cb]) rfl ((M165.rdw (i := 1) rfl).keep0 hS)) ?_
            refine WP.q (Keep.refl _ _) rfl rfl rfl rfl (fun w' hS => Ex.loadA ty31 rfl (l := bytesV RT) (h32_len hRT32) ((M165.rdw (i := 8) rfl).keep0 hS)) ?_
            refine WP.a rfl rfl rfl rfl (Ac.call rfl Tryd.func39 nm39 rfl (check33_ok w165 (some ⟨ga, 0, none⟩) Ab Ast ca cb cst zs hs (List.map (fun i => List.getD ls i z32) zs) (d : Int) RT n (M165.rdr (i := 2) rfl) hzg (by omega) (M165.rdr (i := 3) rfl) hs32 (by omega) hcb (M165.rdr (i := 0) rfl) hst32 (by omega) hRT32 (hT.keep M165.keep))) ?_; rintro v171 w171 ⟨rfl, K171⟩; refine .inl ⟨rfl, Keep nof w171, ?_⟩
            rw [hck]
            have M171 := M165.step K171
            refine WP.p rfl rfl rfl rfl (fun _ => Ex.eqIt rfl rfl rfl) ?_
            refine qC ?_
            refine WP.py rfl rfl rfl rfl rfl rfl (fun _ => Ex.mv rfl) ?_
            refine WP.py rfl rfl rfl rfl rfl rfl (fun _ => Ex.mv rfl) ?_
            refine WP.py rfl rfl rfl rfl rfl rfl (fun _ => Ex.mv rfl) ?_
            refine WP.py rfl rfl rfl rfl rfl rfl (fun _ => Ex.mv rfl) ?_
            refine WP.py rfl rfl rfl rfl rfl rfl (fun _ => Ex.ia Tryd.underlying67 sz23 rfl rfl ⟨by omega, by omega⟩) ?_
            refine WP.qy (Keep.refl _ _) rfl rfl rfl rfl rfl rfl (fun w' hS => Ex.loadA ty72 rfl (l := [.slice Aa1 (List.length [y]) ca1, .slice Ab1 (List.length hs1) cb1]) rfl ((M171.rdw (i := 4) rfl).keep0 hS)) ?_
            refine WP.qy (Keep.refl _ _) rfl rfl rfl rfl rfl rfl (fun w' hS => Ex.loadA ty31 rfl (l := bytesV RT) (h32_len hRT32) ((M171.rdw (i := 8) rfl).keep0 hS)) ?_
            refine WP.qy (Keep.refl _ _) rfl rfl rfl rfl rfl rfl (fun w' hS => Ex.load ty23 rfl (u64_at ((M171.rdr (i := 7) rfl).keep0 hS) (k := 0) (by omega) (by simp))) ?_
            rw [← hy]
            refine WP.py rfl rfl rfl rfl rfl rfl (fun _ => Ex.ia Tryd.underlying39 sz31 rfl rfl ⟨by omega, by omega⟩) ?_
            refine WP.qy (Keep.refl _ _) rfl rfl rfl rfl rfl rfl (fun w' hS => Ex.loadA ty31 rfl (l := bytesV (List.getD ls y z32)) (h32_len hy32) (fl_at (i := y) ((M171.rd hrl).keep0 hS) hls (getD_get (by omega)) (by simp))) ?_
            refine WP.ays rfl rfl rfl rfl rfl rfl (Ac.bs M171 (parts := [(0, .tmp 174)]) (l := bytesV (List.getD ls y z32)) rfl rfl (LitS.agg1 el39 rfl (h32_len hy32) (by decide))) ?_; rintro v184 w184 ⟨gs2, rfl, hg184, K184, M184⟩
            refine ⟨Keep nof w184, fun u h => K184.trans h, Keep.refl _ _, ?_⟩
            refine WP.ays rfl rfl rfl rfl rfl rfl (Ac.call rfl Tryd.func39 nm39 rfl (check33_ok w184 Aa1 Ab1 (some ⟨gs2, 0, none⟩) ca1 cb1 1 [y] hs1 [List.getD ls y z32] (d : Int) RT n (M184.rdr (i := 6) rfl) (gv_lt (B := 18446744073709551616) (fun v hv => by obtain rfl := List.mem_singleton.1 hv; omega) (by decide)) (by simp) (M184.rdr (i := 7) rfl) hs132 (by omega) hcb1 (by have h9 := M184.rdw (i := 0) rfl; exact (by simpa [fl] using h9)) (by intro a ha; obtain rfl := List.mem_singleton.1 ha; exact hy32) (by simp) hRT32 (hT.keep M184.keep))) ?_; rintro v185 w185 ⟨rfl, K185⟩
            refine ⟨Keep nof w185, fun u h => K185.trans h, Keep.refl _ _, ?_⟩
            rw [hck1]
            have M185 := M184.step K185
            refine WP.py rfl rfl rfl rfl rfl rfl (fun _ => Ex.eqIt rfl rfl rfl) ?_
            refine WP.p rfl rfl rfl rfl (fun _ => Ex.pickT rfl rfl) ?_
            refine WP.p rfl rfl rfl rfl (fun _ => Ex.asg rfl) ?_
            refine WP.nil ?_
            refine WX.next ?_
            refine WC.ret ?_
            refine WX.ret1 rfl rfl ?_
            exact ⟨rfl, M185.keep⟩

end Go.Proofs.YtchmjpdkonfifaaDoor
