/- Walks, written by gen.py off the translation's own print: each says what the Go function comes to. -/
import Derived.Test.YtchmjpdkonfifaaDoorGb
import Derived.Test.YtchmjpdkonfifaaDoorTree
set_option linter.unusedVariables false
set_option linter.unusedSimpArgs false
namespace Go.Proofs.YtchmjpdkonfifaaDoor
open Go.Sx Go.RowKit
attribute [local irreducible] Ac Ex WL WC WX WP Gives sha

abbrev e0 : List UInt8 := dOf 2 []
theorem emptyH_emp : ∀ n, emptyH n = emp dNode e0 n
  | 0 => rfl
  | n + 1 => by rw [emptyH, emp, emptyH_emp n]
/-- The sums of the empty trees, where a tree keeps them. -/
def ES (w : World) (ge d : Nat) : Prop := Rd w (some ⟨ge, 0, none⟩) (fl (emps dNode e0 (d + 1)))
theorem ES.keep {w w' : World} {ge d : Nat} (h : ES w ge d) (k : Keep nof w w') : ES w' ge d := Rd.keep0 h k
def tC (gl ge d : Nat) : List Value := [.slice (some ⟨gl, 0, none⟩) (d + 1) (d + 1), .slice (some ⟨ge, 0, none⟩) (d + 1) (d + 1)]
/-- A tree behind a pointer. -/
structure TreeS (w : World) (g gl ge d : Nat) (vs : List Value) (lv : List Hs) : Prop where
  hd : (blk g (tC gl ge d) 130).sat w
  lvs : (blk gl vs 39).sat w
  lev : LevS w vs lv 31
  len : lv.length = d + 1
def treeR (g gl ge d : Nat) (vs : List Value) (lv : List Hs) : Res := sep (sep (blk g (tC gl ge d) 130) (blk gl vs 39)) (levR vs lv 31)
theorem TreeS.of {w : World} {g gl ge d : Nat} {vs : List Value} {lv : List Hs} (h : (treeR g gl ge d vs lv).sat w) (hl : lv.length = d + 1) : TreeS w g gl ge d vs lv := ⟨h.1.1, h.1.2.1, h.2.1, hl⟩
theorem TreeS.keep {w w' : World} {g gl ge d : Nat} {vs : List Value} {lv : List Hs} (h : TreeS w g gl ge d vs lv) (k : Keep nof w w') : TreeS w' g gl ge d vs lv :=
  ⟨Res.keep0 h.hd k, Res.keep0 h.lvs k, Res.keep0 (r := levR vs lv _) h.lev k, h.len⟩
theorem TreeS.c0 {w : World} {g gl ge d : Nat} {vs : List Value} {lv : List Hs} (h : TreeS w g gl ge d vs lv) : w.cell? ⟨g, 0, none⟩ = some (.slice (some ⟨gl, 0, none⟩) (d + 1) (d + 1)) := blk_cell h.hd rfl
theorem TreeS.c1 {w : World} {g gl ge d : Nat} {vs : List Value} {lv : List Hs} (h : TreeS w g gl ge d vs lv) : w.cell? ⟨g, 1, none⟩ = some (.slice (some ⟨ge, 0, none⟩) (d + 1) (d + 1)) := blk_cell h.hd rfl
theorem TreeS.ck {w : World} {g gl ge d : Nat} {vs : List Value} {lv : List Hs} (h : TreeS w g gl ge d vs lv) {k o : Nat} {v : Value} (hv : vs[k]? = some v) (ho : o = k) : w.cell? ⟨gl, o, none⟩ = some v := by subst ho; exact blk_cell h.lvs hv
theorem LevS.at {w : World} {vs : List Value} {lv : List Hs} {e : TypeId} (h : LevS w vs lv e) {k : Nat} {l : Hs} (hl : lv[k]? = some l) : ∃ A c, vs[k]? = some (.slice A l.length c) ∧ Rd w A (fl l) ∧ l.length ≤ c ∧ c ≤ maxLen := by
  have hk : k < vs.length := by rw [h.len]; exact (List.getElem?_eq_some_iff.1 hl).1
  have hv := List.getElem?_eq_getElem hk
  have hr := h.row k _ l hv hl
  obtain ⟨A, c, e1⟩ := own_slice hr
  rw [e1] at hr hv
  refine ⟨A, c, hv, rd_of_own hr, ?_⟩
  rcases hr.2 with ⟨h1, h2⟩ | ⟨g, cap, cur, h1, _, _, h2, h3, _⟩
  · simp only [Value.slice.injEq] at h1
    rw [h1.2.1, h1.2.2]
    exact ⟨Nat.le_refl _, Nat.zero_le _⟩
  · simp only [Value.slice.injEq] at h1
    rw [h1.2.2]
    exact ⟨h2, h3⟩
theorem TreeS.at {w : World} {g gl ge d : Nat} {vs : List Value} {lv : List Hs} (h : TreeS w g gl ge d vs lv) {k : Nat} {l : Hs} (hl : lv[k]? = some l) : ∃ A c, vs[k]? = some (.slice A l.length c) ∧ Rd w A (fl l) ∧ l.length ≤ c ∧ c ≤ maxLen := LevS.at h.lev hl
theorem TreeS.at' {w : World} {g gl ge d : Nat} {vs : List Value} {lv : List Hs} (h : TreeS w g gl ge d vs lv) {k : Nat} {l : Hs} (hl : lv[k]? = some l) (h32 : ∀ a ∈ l, H32 a) (hn : 0 < l.length) : ∃ b o c, vs[k]? = some (.slice (some ⟨b, o, none⟩) l.length c) ∧ Rd w (some ⟨b, o, none⟩) (fl l) ∧ l.length ≤ c ∧ c ≤ maxLen := by
  obtain ⟨A, c, h1, h2, h3, h4⟩ := h.at hl
  obtain ⟨b, o, rfl, _⟩ := h2.plain (by rw [fl_len h32]; omega)
  exact ⟨b, o, c, h1, h2, h3, h4⟩
theorem fl_at {w : World} {b o i q : Nat} {l : Hs} {a : List UInt8} (h : Rd w (some ⟨b, o, none⟩) (fl l)) (h32 : ∀ a ∈ l, H32 a) (ha : l[i]? = some a) (hq : q = o + i * 32) : Rd w (some ⟨b, q, none⟩) (bytesV a) := by
  subst hq
  exact Rd.flat h (fun a ha => by simpa using h32 a ha) ha
theorem nd32 {ls : Hs} (h : ∀ a ∈ ls, H32 a) (k p : Nat) : H32 (nd dNode e0 ls k p) := nd_all (Q := H32) (fun a b => dNode_len a b) (dOf_len 2 []) h k p
theorem emp32 (k : Nat) : H32 (emp dNode e0 k) := emp_all (Q := H32) (fun a b => dNode_len a b) (dOf_len 2 []) k
theorem lev32 {ls : Hs} (h : ∀ a ∈ ls, H32 a) (k : Nat) : ∀ a ∈ levOf dNode e0 ls k, H32 a := by
  intro a ha
  obtain ⟨p, _, rfl⟩ := List.mem_map.1 ha
  exact nd32 h k p
theorem emps32 (m : Nat) : ∀ a ∈ emps dNode e0 m, H32 a := by
  intro a ha
  obtain ⟨p, _, rfl⟩ := List.mem_map.1 ha
  exact emp32 p
theorem take32 {ls : Hs} (h : ∀ a ∈ ls, H32 a) (n : Nat) : ∀ a ∈ ls.take n, H32 a := fun a ha => h a (List.mem_of_mem_take ha)

/- (*sponsion/tree.Tree).Len -/
theorem tLen_ok (w : World) (g gl ge d : Nat) (vs : List Value) (lv : List Hs) (l : Hs) (hTr : TreeS w g gl ge d vs lv) (hl : lv[0]? = some l) :
    Gives Tryd.prog 59 #[.pointer (some ⟨g, 0, none⟩)] w fun u w1 => u = .int .u64 (l.length : Int) ∧ Keep nof w w1 := by
  have M0 := Mem.start w nof
  obtain ⟨A, c, hv, hrd, hlc, hcm⟩ := hTr.at hl
  unfold maxLen at hcm
  refine Gives.enter (n := 13) Tryd.func59 rfl Tryd.ntmps59 rfl (env := [(0, .pointer (some ⟨g, 0, none⟩))]) rfl ?_
  refine WC.seq ?_
  refine WC.region ?_
  refine WL.ex rfl rfl rfl (Ex.asg rfl) ?_
  refine WL.nil ?_
  refine WX.next (?_)
  refine WC.seq ?_
  refine WC.seq ?_
  refine WC.region ?_
  refine WL.ex rfl rfl rfl (Ex.mv rfl) ?_
  refine WL.ex rfl rfl rfl (Ex.eqPn Tryd.underlying68 rfl) ?_
  refine WL.nil ?_
  refine WX.next (?_)
  refine WC.no rfl ?_
  refine WC.skip ?_
  refine WX.next (?_)
  refine WC.seq ?_
  refine WC.region ?_
  refine WL.ex rfl rfl rfl (Ex.mv rfl) ?_
  refine WL.ex rfl rfl rfl (Ex.nilc rfl) ?_
  refine WL.ex rfl rfl rfl (Ex.fa fl130_0 rfl) ?_
  refine WL.ex rfl rfl rfl (Ex.load ty128 rfl (hTr.keep M0.keep).c0) ?_
  refine WL.ex rfl rfl rfl (Ex.ia Tryd.underlying128 sz39 rfl rfl ⟨by omega, by omega⟩) ?_
  refine WL.ex rfl rfl rfl (Ex.load ty39 rfl ((hTr.keep M0.keep).ck hv (by simp))) ?_
  refine WL.ex rfl rfl rfl (Ex.len Tryd.underlying39 rfl) ?_
  refine WL.ex rfl rfl rfl (Ex.cvI Tryd.underlying3 Tryd.underlying23 rfl (u64w_lt _ (by omega))) ?_
  refine WL.ex rfl rfl rfl (Ex.asg rfl) ?_
  refine WL.nil ?_
  refine WX.next (?_)
  refine WC.ret ?_
  refine WX.ret1 rfl rfl ?_
  exact ⟨rfl, M0.keep⟩

/- (*sponsion/tree.Tree).Depth -/
theorem tDepth_ok (w : World) (g gl ge d : Nat) (vs : List Value) (lv : List Hs) (hTr : TreeS w g gl ge d vs lv) (hd : d ≤ 32) :
    Gives Tryd.prog 64 #[.pointer (some ⟨g, 0, none⟩)] w fun u w1 => u = .int .i64 (d : Int) ∧ Keep nof w w1 := by
  have M0 := Mem.start w nof
  refine Gives.enter (n := 11) Tryd.func64 rfl Tryd.ntmps64 rfl (env := [(0, .pointer (some ⟨g, 0, none⟩))]) rfl ?_
  refine WC.seq ?_
  refine WC.region ?_
  refine WL.ex rfl rfl rfl (Ex.asg rfl) ?_
  refine WL.nil ?_
  refine WX.next (?_)
  refine WC.seq ?_
  refine WC.seq ?_
  refine WC.region ?_
  refine WL.ex rfl rfl rfl (Ex.mv rfl) ?_
  refine WL.ex rfl rfl rfl (Ex.eqPn Tryd.underlying68 rfl) ?_
  refine WL.nil ?_
  refine WX.next (?_)
  refine WC.no rfl ?_
  refine WC.skip ?_
  refine WX.next (?_)
  refine WC.seq ?_
  refine WC.region ?_
  refine WL.ex rfl rfl rfl (Ex.mv rfl) ?_
  refine WL.ex rfl rfl rfl (Ex.nilc rfl) ?_
  refine WL.ex rfl rfl rfl (Ex.fa fl130_0 rfl) ?_
  refine WL.ex rfl rfl rfl (Ex.load ty128 rfl (hTr.keep M0.keep).c0) ?_
  refine WL.ex rfl rfl rfl (Ex.len Tryd.underlying128 rfl) ?_
  refine WL.ex rfl rfl rfl (Ex.sub rfl rfl (c := (d : Int)) (by rw [i64w _ (by omega) (by omega)]; omega)) ?_
  refine WL.ex rfl rfl rfl (Ex.asg rfl) ?_
  refine WL.nil ?_
  refine WX.next (?_)
  refine WC.ret ?_
  refine WX.ret1 rfl rfl ?_
  exact ⟨rfl, M0.keep⟩

theorem tmodT (x n : Nat) : (x : Int).tmod (n : Int) = ((x % n : Nat) : Int) := (Int.ofNat_tmod x n).symm
theorem u64sub {a b : Nat} (h : b ≤ a) (ha : a < 18446744073709551616) : IntKind.u64.wrap ((a : Int) - (b : Int)) = ((a - b : Nat) : Int) := by
  rw [show ((a : Int) - (b : Int)) = ((a - b : Nat) : Int) by omega]
  exact u64w_lt _ (by omega)
/-- What a tree answers to a question for a node. -/
def tNode (d : Nat) (ls : Hs) (n : Nat) (z : Int) (p : Nat) : List UInt8 × Bool :=
  if n ≤ ls.length ∧ 0 ≤ z ∧ z ≤ (d : Int) ∧ p / 2 ^ (d - z.toNat) = 0 then (nd dNode e0 (ls.take n) z.toNat p, true) else (List.replicate 32 0, false)
theorem tNode_no {d : Nat} {ls : Hs} {n : Nat} {z : Int} {p : Nat} (h : ¬ (n ≤ ls.length ∧ 0 ≤ z ∧ z ≤ (d : Int) ∧ p / 2 ^ (d - z.toNat) = 0)) : tNode d ls n z p = (List.replicate 32 0, false) := if_neg h
theorem tNode_yes {d : Nat} {ls : Hs} {n k p : Nat} {a : List UInt8} (h1 : n ≤ ls.length) (h2 : k ≤ d) (h3 : p / 2 ^ (d - k) = 0) (ha : nd dNode e0 (ls.take n) k p = a) : tNode d ls n (k : Int) p = (a, true) := by
  rw [tNode, if_pos ⟨h1, by omega, by omega, by simpa using h3⟩, ← ha]
  rfl
theorem tNode_32 {d : Nat} {ls : Hs} (h : ∀ a ∈ ls, H32 a) (n : Nat) (z : Int) (p : Nat) : H32 (tNode d ls n z p).1 := by
  unfold tNode
  split
  · exact nd32 (take32 h n) _ _
  · exact h32_0

/- (*sponsion/tree.Tree).edge -/
theorem tEdge_ok (w : World) (g gl ge d : Nat) (vs : List Value) (ls : Hs) (n lev : Nat) (hTr : TreeS w g gl ge d vs (lvOf dNode e0 d ls)) (hE : ES w ge d) (hls : ∀ a ∈ ls, H32 a) (hn : n ≤ ls.length) (hlev : lev ≤ d) (hd : d ≤ 32) (hT : Tabs w) :
    Gives Tryd.prog 77 #[.pointer (some ⟨g, 0, none⟩), .int .u64 (n : Int), .int .i64 (lev : Int)] w fun u w1 => u = .agg (bytesV (nd dNode e0 (ls.take n) lev (n / 2 ^ lev))).toArray ∧ Keep nof w w1 := by
  have M0 := Mem.start w nof
  have he32 := emp32 0
  have hn64 : n < 18446744073709551616 := by
    obtain ⟨A, c, _, _, h1, h2⟩ := hTr.at (lvOf_get (j := 0) (by omega))
    rw [levOf_zero] at h1
    unfold maxLen at h2
    omega
  have ht32 := take32 hls n
  have hr32 := nd32 ht32 lev (n / 2 ^ lev)
  refine Gives.enter (n := 50) Tryd.func77 rfl Tryd.ntmps77 rfl (env := [(0, .pointer (some ⟨g, 0, none⟩)), (1, .int .u64 (n : Int)), (2, .int .i64 (lev : Int))]) rfl ?_
  refine WC.seq ?_
  refine WC.region ?_
  refine WL.ac rfl rfl rfl (Ac.alloc M0 (l := bytesV (List.replicate 32 0)) (by kernel_rfl)) ?_; rintro v1 w1 ⟨go, rfl, hg1, K1, M1⟩
  refine WL.nil ?_
  refine WX.next (?_)
  refine WC.seq ?_
  refine WC.region ?_
  refine WL.ex rfl rfl rfl (Ex.mv rfl) ?_
  refine WL.ex rfl rfl rfl (Ex.nilc rfl) ?_
  refine WL.ex rfl rfl rfl (Ex.fa fl130_1 rfl) ?_
  refine WL.ex rfl rfl rfl (Ex.load ty39 rfl (hTr.keep M1.keep).c1) ?_
  refine WL.ex rfl rfl rfl (Ex.ia Tryd.underlying39 sz31 rfl rfl ⟨by omega, by omega⟩) ?_
  refine WL.ex rfl rfl rfl (Ex.loadA ty31 rfl (l := bytesV (emp dNode e0 0)) (by simpa using he32) (fl_at (hE.keep M1.keep) (emps32 _) (emps_get (k := 0) (by omega)) (by simp))) ?_
  refine WL.ac rfl rfl rfl (Ac.alloc M1 (l := bytesV (List.replicate 32 0)) (by kernel_rfl)) ?_; rintro v8 w8 ⟨gh, rfl, hg8, K8, M8⟩
  refine WL.ac0 rfl rfl (Ac.stA M8 ty31 rfl rfl rfl (h32_len (by first | assumption | exact h32_0)) (bytesV_one _) (i := 0) rfl (by first | (rw [h32_len (by first | assumption | exact h32_0), h32_len (by first | assumption | exact h32_0)]; decide) | (rw [h32_len (by first | assumption | exact h32_0)]; decide) | rw [h32_len (by first | assumption | exact h32_0)])) ?_; rintro v9 w9 ⟨K9, M9⟩
  try dsimp only [List.set] at M9
  rw [splice_all _ _ (by first | rw [h32_len (by first | assumption | exact h32_0), h32_len (by first | assumption | exact h32_0)] | rw [h32_len (by first | assumption | exact h32_0)])] at M9
  refine WL.nil ?_
  refine WX.next (?_)
  refine WC.seq ?_
  refine WC.seq ?_
  refine WC.region ?_
  refine WL.ex rfl rfl rfl (Ex.mv rfl) ?_
  refine WL.ex rfl rfl rfl (Ex.mv rfl) ?_
  refine WL.nil ?_
  refine WX.next (?_)
  refine WC.block ?_
  refine WC.loop (σ := Nat) (fun i => [(0, .pointer (some ⟨g, 0, none⟩)), (1, .int .u64 (n : Int)), (6, .pointer (some ⟨go, 0, none⟩)), (7, .pointer (some ⟨gh, 0, none⟩)), (16, .int .i64 (lev : Int)), (17, .int .i64 (i : Int))]) (fun i wr => i ≤ lev ∧ Mem w wr nof [blk gh (bytesV (nd dNode e0 (ls.take n) i (n / 2 ^ i))) 31, blk go (bytesV (List.replicate 32 0)) 31]) (fun i => lev - i) (0) ?_ (.cons rfl (.cons rfl (.cons rfl (.cons rfl (.cons rfl (.cons rfl (.nil))))))) ?_
  · refine ⟨by omega, ?_⟩
    rw [nd_emp 0 (n / 2 ^ 0) (by simp; omega)]
    exact M9
  rintro i w12 ⟨hi, M12⟩
  refine WC.seq ?_
  refine WC.region ?_
  refine WL.ex rfl rfl rfl (Ex.lss rfl rfl) ?_
  refine WL.nil ?_
  refine WX.next (?_)
  refine WC.seq ?_
  refine WC.cond_dec rfl (fun hc18 => ?_) (fun hc18 => ?_)
  · have hdn := Nat.div_le_self n (2 ^ i)
    have hdl := Nat.div_le_div_right (c := 2 ^ i) hn
    have hmul := Nat.div_mul_le_self n (2 ^ i)
    have hcur := nd32 ht32 i (n / 2 ^ i)
    have hod := nd_odd (N := dNode) (e := e0) (ls := ls.take n) (k := i) (n := n)
    have hev := nd_even (N := dNode) (e := e0) (ls := ls.take n) (k := i) (n := n) (by simp; omega)
    obtain ⟨p, hp⟩ : ∃ p, p = n / 2 ^ i := ⟨_, rfl⟩
    obtain ⟨q, hq⟩ : ∃ q, q = ls.length / 2 ^ i := ⟨_, rfl⟩
    have hll : (levOf dNode e0 ls i).length = q := by rw [levOf_len, hq]
    rw [← hp] at M12 hdn hdl hmul hcur hod hev
    rw [← hq] at hdl
    refine WC.skip ?_
    refine WX.next (?_)
    refine WC.seq ?_
    refine WC.block ?_
    refine WC.seq ?_
    refine WC.region ?_
    refine WL.ex rfl rfl rfl (Ex.mv rfl) ?_
    refine WL.ex rfl rfl rfl (Ex.asg rfl) ?_
    refine WL.nil ?_
    refine WX.next (?_)
    refine WC.seq ?_
    refine WC.region ?_
    refine WL.ex rfl rfl rfl (Ex.mv rfl) ?_
    refine WL.ex rfl rfl rfl (Ex.mv rfl) ?_
    refine WL.ex rfl rfl rfl (Ex.shr rfl rfl (m := i) rfl (c := ((p : Nat) : Int)) (by rw [hp]; exact shrN _ _ _ (by simp [IntKind.bits]; omega))) ?_
    refine WL.ex rfl rfl rfl (Ex.asg rfl) ?_
    refine WL.nil ?_
    refine WX.next (?_)
    refine WC.seq ?_
    refine WC.region ?_
    refine WL.ex rfl rfl rfl (Ex.mv rfl) ?_
    refine WL.ex rfl rfl rfl (Ex.rem rfl rfl (by decide) (c := ((p % 2 : Nat) : Int)) (tmodT _ 2)) ?_
    refine WL.ex rfl rfl rfl (Ex.eqI rfl rfl) ?_
    refine WL.nil ?_
    refine WX.next (?_)
    refine WC.cond_dec rfl (fun h25 => ?_) (fun h25 => ?_)
    · have ho : p % 2 = 1 := by omega
      obtain ⟨bk, ok_, ck, hvk, hrk, _⟩ := hTr.at' (lvOf_get (j := i) (by omega)) (lev32 hls i) (by omega)
      have hx32 := nd32 hls i (p - 1)
      have hsum := hod ho
      rw [nd_take (p := p - 1) (by rw [Nat.sub_add_cancel (by omega)]; exact hmul)] at hsum
      have hs32 := dNode_len (nd dNode e0 ls i (p - 1)) (nd dNode e0 (ls.take n) i p)
      refine WC.draw (Keep nof w12.drew) [13] (.one 0 0 (.one 1 0 (.one 2 0 (.one 4 0 (.one 7 0 (.one 8 0 (.one 3 1 (.one 5 0 (.one 6 1 (.one 9 0 (.one 10 1 (.one 11 1 (.one 12 2 (.one 13 2 .nil)))))))))))))) mixed (by kernel_rfl) (by kernel_rfl) (by kernel_rfl) (HQ.block (HQ.then_ (HQ.then_ (HQ.block (HQ.then_ HQ.body))))) ?_
      obtain ⟨w23, hw23⟩ : ∃ v, v = w12.drew := ⟨_, rfl⟩
      have D23 : Keep nof w12 w23 := by rw [hw23]; exact Keep.drew _ _
      have M23 := M12.step D23
      rw [← hw23]; clear hw23
      refine WP.p rfl rfl rfl rfl (fun _ => Ex.mv rfl) ?_
      refine WP.p rfl rfl rfl rfl (fun _ => Ex.nilc rfl) ?_
      refine WP.p rfl rfl rfl rfl (fun _ => Ex.fa fl130_0 rfl) ?_
      refine WP.p rfl rfl rfl rfl (fun _ => Ex.mv rfl) ?_
      refine WP.p rfl rfl rfl rfl (fun _ => Ex.mv rfl) ?_
      refine WP.p rfl rfl rfl rfl (fun _ => Ex.sub rfl rfl (c := ((p - 1 : Nat) : Int)) (u64sub (b := 1) (by omega) (by omega))) ?_
      refine WP.q (Keep.refl _ _) rfl rfl rfl rfl (fun w' hS => Ex.load ty128 rfl (hTr.keep (M23.keep.trans hS)).c0) ?_
      refine WP.p rfl rfl rfl rfl (fun _ => Ex.ia Tryd.underlying128 sz39 rfl rfl ⟨by omega, by omega⟩) ?_
      refine WP.q (Keep.refl _ _) rfl rfl rfl rfl (fun w' hS => Ex.load ty39 rfl ((hTr.keep (M23.keep.trans hS)).ck hvk (by simp))) ?_
      refine WP.p rfl rfl rfl rfl (fun _ => Ex.ia Tryd.underlying39 sz31 rfl rfl ⟨by omega, by omega⟩) ?_
      refine WP.q (Keep.refl _ _) rfl rfl rfl rfl (fun w' hS => Ex.loadA ty31 rfl (l := bytesV (nd dNode e0 ls i (p - 1))) (by simpa using hx32) (fl_at (hrk.keep0 (M23.keep.trans hS)) (lev32 hls i) (levOf_get (p := p - 1) (by omega)) (by simp))) ?_
      refine WP.q (Keep.refl _ _) rfl rfl rfl rfl (fun w' hS => Ex.loadA ty31 rfl (h32_len (by first | assumption | exact h32_0)) ((M23.rdw (i := 0) rfl).keep0 hS)) ?_
      refine WP.as rfl rfl rfl rfl (Ac.call rfl Tryd.func74 nm74 rfl (node_ok w23 _ _ hx32 hcur (hT.keep M23.keep))) ?_; rintro v36 w36 ⟨rfl, K36⟩
      refine ⟨Keep nof w36, fun u h => K36.trans h, Keep.refl _ _, ?_⟩
      have M36 := M23.step K36
      refine WP.a0 rfl rfl rfl (Ac.stA M36 ty31 rfl rfl rfl (h32_len (by first | assumption | exact h32_0)) (bytesV_one _) (i := 0) rfl (by first | (rw [h32_len (by first | assumption | exact h32_0), h32_len (by first | assumption | exact h32_0)]; decide) | (rw [h32_len (by first | assumption | exact h32_0)]; decide) | rw [h32_len (by first | assumption | exact h32_0)])) ?_; rintro v37 w37 ⟨K37, M37⟩; refine .inl ⟨rfl, Keep nof w37, ?_⟩
      try dsimp only [List.set] at M37
      rw [splice_all _ _ (by first | rw [h32_len (by first | assumption | exact h32_0), h32_len (by first | assumption | exact h32_0)] | rw [h32_len (by first | assumption | exact h32_0)])] at M37
      refine WP.nil ?_
      refine WX.normal_block (WX.next (?_))
      refine WC.region ?_
      refine WL.ex rfl rfl rfl (Ex.add rfl rfl (i64w _ (by omega) (by omega))) ?_
      refine WL.ex rfl rfl rfl (Ex.mv rfl) ?_
      refine WL.nil ?_
      refine WX.again (i + 1) ?_ ?_ (.cons rfl (.cons rfl (.cons rfl (.cons rfl (.cons rfl (.cons rfl (.nil)))))))
      · (try dsimp only); omega
      · refine ⟨by omega, ?_⟩
        rw [hsum]
        exact M37
    · have ho : p % 2 = 0 := by omega
      have hsum := hev ho
      have hx32 := emp32 i
      have hs32 := dNode_len (nd dNode e0 (ls.take n) i p) (emp dNode e0 i)
      refine WC.draw (Keep nof w12.drew) [9] (.one 1 0 (.one 2 0 (.one 3 0 (.one 5 0 (.one 0 1 (.one 4 1 (.one 6 0 (.one 7 1 (.one 8 2 (.one 9 2 .nil)))))))))) mixed (by kernel_rfl) (by kernel_rfl) (by kernel_rfl) (HQ.block (HQ.then_ (HQ.then_ (HQ.block (HQ.then_ HQ.body))))) ?_
      obtain ⟨w40, hw40⟩ : ∃ v, v = w12.drew := ⟨_, rfl⟩
      have D40 : Keep nof w12 w40 := by rw [hw40]; exact Keep.drew _ _
      have M40 := M12.step D40
      rw [← hw40]; clear hw40
      refine WP.p rfl rfl rfl rfl (fun _ => Ex.mv rfl) ?_
      refine WP.p rfl rfl rfl rfl (fun _ => Ex.nilc rfl) ?_
      refine WP.p rfl rfl rfl rfl (fun _ => Ex.fa fl130_1 rfl) ?_
      refine WP.p rfl rfl rfl rfl (fun _ => Ex.mv rfl) ?_
      refine WP.q (Keep.refl _ _) rfl rfl rfl rfl (fun w' hS => Ex.loadA ty31 rfl (h32_len (by first | assumption | exact h32_0)) ((M40.rdw (i := 0) rfl).keep0 hS)) ?_
      refine WP.q (Keep.refl _ _) rfl rfl rfl rfl (fun w' hS => Ex.load ty39 rfl (hTr.keep (M40.keep.trans hS)).c1) ?_
      refine WP.p rfl rfl rfl rfl (fun _ => Ex.ia Tryd.underlying39 sz31 rfl rfl ⟨by omega, by omega⟩) ?_
      refine WP.q (Keep.refl _ _) rfl rfl rfl rfl (fun w' hS => Ex.loadA ty31 rfl (l := bytesV (emp dNode e0 i)) (by simpa using hx32) (fl_at (hE.keep (M40.keep.trans hS)) (emps32 _) (emps_get (k := i) (by omega)) (by simp))) ?_
      refine WP.as rfl rfl rfl rfl (Ac.call rfl Tryd.func74 nm74 rfl (node_ok w40 _ _ hcur hx32 (hT.keep M40.keep))) ?_; rintro v49 w49 ⟨rfl, K49⟩
      refine ⟨Keep nof w49, fun u h => K49.trans h, Keep.refl _ _, ?_⟩
      have M49 := M40.step K49
      refine WP.a0 rfl rfl rfl (Ac.stA M49 ty31 rfl rfl rfl (h32_len (by first | assumption | exact h32_0)) (bytesV_one _) (i := 0) rfl (by first | (rw [h32_len (by first | assumption | exact h32_0), h32_len (by first | assumption | exact h32_0)]; decide) | (rw [h32_len (by first | assumption | exact h32_0)]; decide) | rw [h32_len (by first | assumption | exact h32_0)])) ?_; rintro v50 w50 ⟨K50, M50⟩; refine .inl ⟨rfl, Keep nof w50, ?_⟩
      try dsimp only [List.set] at M50
      rw [splice_all _ _ (by first | rw [h32_len (by first | assumption | exact h32_0), h32_len (by first | assumption | exact h32_0)] | rw [h32_len (by first | assumption | exact h32_0)])] at M50
      refine WP.nil ?_
      refine WX.normal_block (WX.next (?_))
      refine WC.region ?_
      refine WL.ex rfl rfl rfl (Ex.add rfl rfl (i64w _ (by omega) (by omega))) ?_
      refine WL.ex rfl rfl rfl (Ex.mv rfl) ?_
      refine WL.nil ?_
      refine WX.again (i + 1) ?_ ?_ (.cons rfl (.cons rfl (.cons rfl (.cons rfl (.cons rfl (.cons rfl (.nil)))))))
      · (try dsimp only); omega
      · refine ⟨by omega, ?_⟩
        rw [hsum]
        exact M50
  · obtain rfl : i = lev := by omega
    refine WC.exit ?_
    refine WX.exit_then (WX.exit_then (WX.exit_block (WX.next (?_))))
    refine WC.seq ?_
    refine WC.region ?_
    refine WL.ex rfl rfl rfl (Ex.loadA ty31 rfl (h32_len (by first | assumption | exact h32_0)) (M12.rdw (i := 0) rfl)) ?_
    refine WL.ac0 rfl rfl (Ac.stA M12 ty31 rfl rfl rfl (h32_len (by first | assumption | exact h32_0)) (bytesV_one _) (i := 1) rfl (by first | (rw [h32_len (by first | assumption | exact h32_0), h32_len (by first | assumption | exact h32_0)]; decide) | (rw [h32_len (by first | assumption | exact h32_0)]; decide) | rw [h32_len (by first | assumption | exact h32_0)])) ?_; rintro v54 w54 ⟨K54, M54⟩
    try dsimp only [List.set] at M54
    rw [splice_all _ _ (by first | rw [h32_len (by first | assumption | exact h32_0), h32_len (by first | assumption | exact h32_0)] | rw [h32_len (by first | assumption | exact h32_0)])] at M54
    refine WL.nil ?_
    refine WX.next (?_)
    refine WC.ret ?_
    refine WX.retc rfl rfl (run_loadVarA ty31 (h32_len (by first | assumption | exact h32_0)) (M54.rdw (i := 1) rfl)) ?_
    exact ⟨rfl, M54.keep⟩

end Go.Proofs.YtchmjpdkonfifaaDoor
