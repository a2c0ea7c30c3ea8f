/- Walks, written by gen.py off the translation's own print: each says what the Go function comes to. -/
import Derived.Test.YtchmjpdkonfifaaDoorTc
set_option linter.unusedVariables false
set_option linter.unusedSimpArgs false
namespace Go.Proofs.YtchmjpdkonfifaaDoor
open Go.Sx Go.RowKit
attribute [local irreducible] Ac Ex WL WC WX WP Gives sha

def tApp (d : Nat) (ls : Hs) (h : List UInt8) : Nat × Int × Hs := if ls.length < 2 ^ d then (ls.length, 0, ls ++ [h]) else (0, 7, ls)
theorem ES.keepF {w w' : World} {ge d : Nat} {fp : List Nat} (h : ES w ge d) (k : Keep (· ∈ fp) w w') (hF : ge ∉ fp) : ES w' ge d := Rd.keep h k fun a ha hm => by injection ha with ha; subst ha; exact hF hm
theorem app32 {ls : Hs} {h : List UInt8} (hl : ∀ a ∈ ls, H32 a) (hh : H32 h) : ∀ a ∈ ls ++ [h], H32 a := by
  intro a ha
  rcases List.mem_append.1 ha with ha | ha
  · exact hl a ha
  · obtain rfl : a = h := by simpa using ha
    exact hh
theorem tApp32 {d : Nat} {ls : Hs} {h : List UInt8} (hl : ∀ a ∈ ls, H32 a) (hh : H32 h) : ∀ a ∈ (tApp d ls h).2.2, H32 a := by
  unfold tApp
  split
  · exact app32 hl hh
  · exact hl

/- (*sponsion/tree.Tree).Append -/
theorem tAppend_ok (w : World) (g gl ge d : Nat) (vs : List Value) (ls : Hs) (h : List UInt8) (hR : (treeR g gl ge d vs (lvOf dNode e0 d ls)).sat w) (hls : ∀ a ∈ ls, H32 a) (hh : H32 h) (hd : d ≤ 32) (hT : Tabs w) (hFT : ∀ b ∈ (treeR g gl ge d vs (lvOf dNode e0 d ls)).fp, b ≠ 1 ∧ b ≠ 2) :
    Gives Tryd.prog 54 #[.pointer (some ⟨g, 0, none⟩), .agg (bytesV h).toArray] w fun u w1 => ∃ vs', u = .tuple #[.int .u64 ((tApp d ls h).1 : Int), .int .i64 (tApp d ls h).2.1] ∧ Turn w w1 (treeR g gl ge d vs (lvOf dNode e0 d ls)) (treeR g gl ge d vs' (lvOf dNode e0 d (tApp d ls h).2.2)) := by
  have hvl : vs.length = d + 1 := by rw [hR.2.1.len, lvOf_len]
  have hl0 := lvOf_get (N := dNode) (e := e0) (d := d) (ls := ls) (j := 0) (by omega)
  rw [levOf_zero] at hl0
  have M0 := (Mem.begin hR).openS.openS
  have ha32 := app32 hls hh
  refine Gives.enter (n := 77) Tryd.func54 rfl Tryd.ntmps54 rfl (env := [(0, .pointer (some ⟨g, 0, none⟩)), (1, .agg (bytesV h).toArray)]) rfl ?_
  refine WC.seq ?_
  refine WC.region ?_
  refine WL.ac rfl rfl rfl (Ac.box M0 rfl rfl) ?_; rintro v1 w1 ⟨gb, rfl, hg1, K1, M1⟩
  refine WL.ex rfl rfl rfl (Ex.asg rfl) ?_
  refine WL.ex rfl rfl rfl (Ex.asg rfl) ?_
  refine WL.nil ?_
  refine WX.next (?_)
  refine WC.jump (σ := Nat × List UInt8 × List Value) 0 (fun s => [(0, .pointer (some ⟨g, 0, none⟩)), (3, .pointer (some ⟨gb, 0, none⟩)), (6, .int .u64 (ls.length : Int)), (7, .int .i64 (s.1 : Int))]) (fun s wr => ls.length < 2 ^ d ∧ s.1 ≤ d ∧ (ls.length + 1) % 2 ^ s.1 = 0 ∧ s.2.1 = nd dNode e0 (ls ++ [h]) s.1 (ls.length / 2 ^ s.1) ∧ s.2.2.length = d + 1 ∧ Mem w wr (· ∈ (treeR g gl ge d vs (lvOf dNode e0 d ls)).fp) [blk gb (bytesV s.2.1) 31, blk g (tC gl ge d) 130, blk gl s.2.2 39, levR s.2.2 (lvM dNode e0 d ls (ls ++ [h]) s.1) 31]) (fun s => d - s.1) rfl ?_ ?_
  · skip
    rintro ⟨k, hh, vs1⟩ w4 ⟨hlt, hk, hm, hhe, hv1, M4⟩
    dsimp only at hlt hk hm hhe hv1 M4
    refine WC.sub (env' := [(0, .pointer (some ⟨g, 0, none⟩)), (3, .pointer (some ⟨gb, 0, none⟩)), (6, .int .u64 (ls.length : Int)), (7, .int .i64 (k : Int))]) (.cons rfl (.cons rfl (.cons rfl (.cons rfl (.nil))))) ?_
    refine WC.seq ?_
    have D5 := Keep.drew nof w4
    have M5 := M4.step D5
    refine WC.draw (Keep (FP M5 [3]) w4.drew) [16] (.one 0 0 (.one 1 0 (.one 2 0 (.one 4 0 (.one 5 0 (.one 6 0 (.one 7 0 (.one 9 0 (.one 3 1 (.one 8 1 (.one 10 0 (.one 11 1 (.one 12 1 (.one 13 2 (.one 14 2 (.one 15 0 (.one 16 2 .nil))))))))))))))))) mixed (by kernel_rfl) (by kernel_rfl) (by kernel_rfl) (HQ.then_ (HQ.jump HQ.body)) ?_
    revert D5 M5; generalize w4.drew = w5; intro D5 M5
    have B5 : Mem w5 w5 (FP M5 [3]) [_] := M5.base [3] (by decide)
    have hta : tApp d ls h = (ls.length, 0, ls ++ [h]) := if_pos hlt
    have hlb : ls.length < 4294967296 := Nat.lt_of_lt_of_le hlt (Nat.pow_le_pow_right (show 0 < 2 by decide) hd)
    have hh32 : H32 hh := by rw [hhe]; exact nd32 ha32 _ _
    have hlk := lvM_get (N := dNode) (e := e0) (d := d) (ls := ls) (ls' := ls ++ [h]) (k := k) k hk
    rw [if_neg (Nat.lt_irrefl k)] at hlk
    obtain ⟨Ak, ck, hvk, _, _, _⟩ := LevS.at (M5.get (i := 3) rfl) hlk
    have hlen := levOf_len (N := dNode) (e := e0) ls k
    have hdl := Nat.div_le_self ls.length (2 ^ k)
    have hsn : levOf dNode e0 ls k ++ [hh] = levOf dNode e0 (ls ++ [h]) k := by rw [hhe, levOf_snoc hm]
    have hsl := levOf_len (N := dNode) (e := e0) (ls ++ [h]) k
    rw [List.length_append, List.length_singleton] at hsl
    obtain ⟨q, hq⟩ : ∃ q, q = (ls.length + 1) / 2 ^ k := ⟨_, rfl⟩
    rw [← hq] at hsl
    refine WP.p rfl rfl rfl rfl (fun _ => Ex.mv rfl) ?_
    refine WP.p rfl rfl rfl rfl (fun _ => Ex.nilc rfl) ?_
    refine WP.p rfl rfl rfl rfl (fun _ => Ex.fa fl130_0 rfl) ?_
    refine WP.p rfl rfl rfl rfl (fun _ => Ex.mv rfl) ?_
    refine WP.p rfl rfl rfl rfl (fun _ => Ex.mv rfl) ?_
    refine WP.p rfl rfl rfl rfl (fun _ => Ex.nilc rfl) ?_
    refine WP.p rfl rfl rfl rfl (fun _ => Ex.fa fl130_0 rfl) ?_
    refine WP.p rfl rfl rfl rfl (fun _ => Ex.mv rfl) ?_
    refine WP.q B5.keep rfl rfl rfl rfl (fun w' hS => Ex.load ty128 rfl (M5.fp_cell (j := 1) hS rfl (v := (.slice (some ⟨gl, 0, none⟩) (d + 1) (d + 1))) rfl rfl)) ?_
    refine WP.q B5.keep rfl rfl rfl rfl (fun w' hS => Ex.load ty128 rfl (M5.fp_cell (j := 1) hS rfl (v := (.slice (some ⟨gl, 0, none⟩) (d + 1) (d + 1))) rfl rfl)) ?_
    refine WP.p rfl rfl rfl rfl (fun _ => Ex.ia Tryd.underlying128 sz39 rfl rfl ⟨by omega, by omega⟩) ?_
    refine WP.q B5.keep rfl rfl rfl rfl (fun w' hS => Ex.load ty39 rfl (M5.fp_cell (j := 2) hS rfl (by simpa using hvk) rfl)) ?_
    refine WP.q B5.keep rfl rfl rfl rfl (fun w' hS => Ex.loadA ty31 rfl (h32_len (by first | assumption | exact h32_0)) (M5.fp_rdw (j := 0) hS rfl rfl)) ?_
    refine WP.a rfl rfl rfl rfl (Ac.bs M5 (parts := [(0, .tmp 30)]) rfl rfl (LitS.agg1 el39 rfl (by simpa using hh32) (by decide))) ?_; rintro v19 w19 ⟨gp, rfl, hg19, K19, M19⟩
    have B19 := B5.step K19
    refine .inr ⟨fun _ => B19.keep, ?_⟩
    refine WP.a rfl rfl rfl rfl (Ac.appL (M19.get (i := 4) rfl) el39 rfl rfl hvk hlk hh32 (M19.rdw (i := 0) rfl) (by omega) (by unfold maxLen; omega)) ?_; rintro v20 w20 T20
    have B20 := B19.turned (i := 0) rfl T20
    refine .inr ⟨fun _ => B20.keep, ?_⟩
    have M20 := M19.turned (i := 4) rfl T20
    try dsimp only [List.set] at M20
    obtain ⟨A1, c1, rfl⟩ := LevS.slice (M20.get (i := 4) rfl) (by omega)
    rw [hsn, hsl, lvM_set hk] at M20
    rw [hsn, hsl]
    refine WP.p rfl rfl rfl rfl (fun _ => Ex.ia Tryd.underlying128 sz39 rfl rfl ⟨by omega, by omega⟩) ?_
    refine WP.a0 rfl rfl rfl (Ac.st M20 ty39 rfl rfl rfl (i := 3) rfl (by simp; omega)) ?_; rintro v22 w22 ⟨K22, M22⟩; refine .inl ⟨rfl, Keep nof w22, ?_⟩
    try dsimp only [List.set] at M22
    simp only [Int.toNat_natCast, Nat.mul_one, Nat.zero_add] at M22
    refine WP.nil ?_
    refine WX.next (?_)
    refine WC.seq ?_
    refine WC.seq ?_
    refine WC.region ?_
    have hvk2 : (vs1.set k (.slice A1 q c1))[k]? = some (.slice A1 q c1) := List.getElem?_set_self (by omega)
    have hlk2 := lvM_get (N := dNode) (e := e0) (d := d) (ls := ls) (ls' := ls ++ [h]) (k := k + 1) k hk
    rw [if_pos (Nat.lt_succ_self k)] at hlk2
    have hq1 : q = ls.length / 2 ^ k + 1 := by rw [hq, Nat.succ_div, if_pos (Nat.dvd_of_mod_eq_zero hm)]
    have hup := nd_up (N := dNode) (e := e0) (ls := ls ++ [h]) hm
    have hum := up_mod hm
    have hdone := lvM_done (N := dNode) (e := e0) (d := d) (h := h) hm
    rw [← hq] at hup hum hdone
    refine WL.ex rfl rfl rfl (Ex.mv rfl) ?_
    refine WL.ex rfl rfl rfl (Ex.nilc rfl) ?_
    refine WL.ex rfl rfl rfl (Ex.fa fl130_0 rfl) ?_
    refine WL.ex rfl rfl rfl (Ex.load ty128 rfl (M22.cell (i := 2) (v := (.slice (some ⟨gl, 0, none⟩) (d + 1) (d + 1))) rfl rfl)) ?_
    refine WL.ex rfl rfl rfl (Ex.mv rfl) ?_
    refine WL.ex rfl rfl rfl (Ex.ia Tryd.underlying128 sz39 rfl rfl ⟨by omega, by omega⟩) ?_
    refine WL.ex rfl rfl rfl (Ex.load ty39 rfl (M22.cell (i := 3) rfl (by simpa using hvk2))) ?_
    refine WL.ex rfl rfl rfl (Ex.len Tryd.underlying39 rfl) ?_
    refine WL.ex rfl rfl rfl (Ex.asg rfl) ?_
    refine WL.nil ?_
    refine WX.next (?_)
    refine WC.seq ?_
    refine WC.region ?_
    refine WL.ex rfl rfl rfl (Ex.mv rfl) ?_
    refine WL.ex rfl rfl rfl (Ex.rem rfl rfl (by decide) (c := ((q % 2 : Nat) : Int)) (tmodT _ 2)) ?_
    refine WL.ex rfl rfl rfl (Ex.eqI rfl rfl) ?_
    refine WL.ex rfl rfl rfl (Ex.mv rfl) ?_
    by_cases hev : ((q % 2 : Nat) : Int) = 0
    · rw [decide_eq_true hev]
      have hqe : q % 2 = 0 := by omega
      refine WL.yes rfl rfl rfl rfl ?_
      refine WL.ex rfl rfl rfl (Ex.mv rfl) ?_
      refine WL.yes rfl rfl rfl rfl ?_
      refine WL.ex rfl rfl rfl (Ex.mv rfl) ?_
      refine WL.yes rfl rfl rfl rfl ?_
      refine WL.ac rfl rfl rfl (Ac.call rfl Tryd.func64 nm64 rfl (tDepth_ok w22 g gl ge d _ _ (⟨M22.get (i := 2) rfl, M22.get (i := 3) rfl, M22.get (i := 4) rfl, by first | exact lvOf_len _ _ | exact lvM_len _ _ _ _⟩ : TreeS w22 g gl ge d _ (lvM dNode e0 d ls (ls ++ [h]) (k + 1))) hd)) ?_; rintro v38 w38 ⟨rfl, K38⟩
      have M38 := M22.step K38
      refine WL.yes rfl rfl rfl rfl ?_
      refine WL.ex rfl rfl rfl (Ex.lss rfl rfl) ?_
      refine WL.ex rfl rfl rfl (Ex.pickT rfl rfl) ?_
      refine WL.nil ?_
      refine WX.next (?_)
      refine WC.cond_dec rfl (fun h50 => ?_) (fun h50 => ?_)
      · have hrow := LevS.row (M38.get (i := 4) rfl) k _ _ hvk2 hlk2
        obtain ⟨bk, ok_, hA1⟩ : ∃ b o, A1 = some ⟨b, o, none⟩ := by
          obtain ⟨b, o, h1, _⟩ := (rd_of_own (by rw [hsl] at hrow; exact hrow)).plain (by rw [fl_len (lev32 ha32 k), hsl]; omega)
          exact ⟨b, o, h1⟩
        subst hA1
        rw [hsl] at hrow
        have hrk := rd_of_own hrow
        have hx32 := nd32 ha32 k (q - 2)
        have hy32 := nd32 ha32 k (q - 1)
        have hz32 := dNode_len (nd dNode e0 (ls ++ [h]) k (q - 2)) (nd dNode e0 (ls ++ [h]) k (q - 1))
        refine WC.seq ?_
        refine WC.draw (Keep nof w38.drew) [23] (.one 0 0 (.one 1 0 (.one 2 0 (.one 4 0 (.one 7 0 (.one 8 0 (.one 11 0 (.one 12 0 (.one 13 0 (.one 15 0 (.one 18 0 (.one 19 0 (.one 3 1 (.one 5 0 (.one 6 1 (.one 9 0 (.one 10 1 (.one 14 1 (.one 16 0 (.one 17 1 (.one 20 0 (.one 21 1 (.one 22 2 (.one 23 2 .nil)))))))))))))))))))))))) mixed (by kernel_rfl) (by kernel_rfl) (by kernel_rfl) (HQ.then_ (HQ.then_ (HQ.jump HQ.body))) ?_
        obtain ⟨w41, hw41⟩ : ∃ v, v = w38.drew := ⟨_, rfl⟩
        have D41 : Keep nof w38 w41 := by rw [hw41]; exact Keep.drew _ _
        have M41 := M38.step D41
        rw [← hw41]; clear hw41
        refine WP.p rfl rfl rfl rfl (fun _ => Ex.mv rfl) ?_
        refine WP.p rfl rfl rfl rfl (fun _ => Ex.nilc rfl) ?_
        refine WP.p rfl rfl rfl rfl (fun _ => Ex.fa fl130_0 rfl) ?_
        refine WP.p rfl rfl rfl rfl (fun _ => Ex.mv rfl) ?_
        refine WP.p rfl rfl rfl rfl (fun _ => Ex.mv rfl) ?_
        refine WP.p rfl rfl rfl rfl (fun _ => Ex.sub rfl rfl (c := ((q - 2 : Nat) : Int)) (by rw [i64w _ (by omega) (by omega)]; omega)) ?_
        refine WP.p rfl rfl rfl rfl (fun _ => Ex.mv rfl) ?_
        refine WP.p rfl rfl rfl rfl (fun _ => Ex.nilc rfl) ?_
        refine WP.p rfl rfl rfl rfl (fun _ => Ex.fa fl130_0 rfl) ?_
        refine WP.p rfl rfl rfl rfl (fun _ => Ex.mv rfl) ?_
        refine WP.p rfl rfl rfl rfl (fun _ => Ex.mv rfl) ?_
        refine WP.p rfl rfl rfl rfl (fun _ => Ex.sub rfl rfl (c := ((q - 1 : Nat) : Int)) (by rw [i64w _ (by omega) (by omega)]; omega)) ?_
        refine WP.q (Keep.refl _ _) rfl rfl rfl rfl (fun w' hS => Ex.load ty128 rfl (hS.cell (M41.cell (i := 2) (v := (.slice (some ⟨gl, 0, none⟩) (d + 1) (d + 1))) rfl rfl) (fun f => f))) ?_
        refine WP.p rfl rfl rfl rfl (fun _ => Ex.ia Tryd.underlying128 sz39 rfl rfl ⟨by omega, by omega⟩) ?_
        refine WP.q (Keep.refl _ _) rfl rfl rfl rfl (fun w' hS => Ex.load ty39 rfl (hS.cell (M41.cell (i := 3) rfl (by simpa using hvk2)) (fun f => f))) ?_
        refine WP.p rfl rfl rfl rfl (fun _ => Ex.ia Tryd.underlying39 sz31 rfl rfl ⟨by omega, by omega⟩) ?_
        refine WP.q (Keep.refl _ _) rfl rfl rfl rfl (fun w' hS => Ex.loadA ty31 rfl (l := bytesV (nd dNode e0 (ls ++ [h]) k (q - 2))) (by simpa using hx32) (fl_at (hrk.keep0 (D41.trans hS)) (lev32 ha32 k) (levOf_get (p := q - 2) (by rw [List.length_append, List.length_singleton, ← hq]; omega)) (by simp))) ?_
        refine WP.q (Keep.refl _ _) rfl rfl rfl rfl (fun w' hS => Ex.load ty128 rfl (hS.cell (M41.cell (i := 2) (v := (.slice (some ⟨gl, 0, none⟩) (d + 1) (d + 1))) rfl rfl) (fun f => f))) ?_
        refine WP.p rfl rfl rfl rfl (fun _ => Ex.ia Tryd.underlying128 sz39 rfl rfl ⟨by omega, by omega⟩) ?_
        refine WP.q (Keep.refl _ _) rfl rfl rfl rfl (fun w' hS => Ex.load ty39 rfl (hS.cell (M41.cell (i := 3) rfl (by simpa using hvk2)) (fun f => f))) ?_
        refine WP.p rfl rfl rfl rfl (fun _ => Ex.ia Tryd.underlying39 sz31 rfl rfl ⟨by omega, by omega⟩) ?_
        refine WP.q (Keep.refl _ _) rfl rfl rfl rfl (fun w' hS => Ex.loadA ty31 rfl (l := bytesV (nd dNode e0 (ls ++ [h]) k (q - 1))) (by simpa using hy32) (fl_at (hrk.keep0 (D41.trans hS)) (lev32 ha32 k) (levOf_get (p := q - 1) (by rw [List.length_append, List.length_singleton, ← hq]; omega)) (by simp))) ?_
        refine WP.as rfl rfl rfl rfl (Ac.call rfl Tryd.func74 nm74 rfl (node_ok w41 _ _ hx32 hy32 (hT.keepF M41.keep hFT))) ?_; rintro v64 w64 ⟨rfl, K64⟩
        refine ⟨Keep nof w64, fun u h => K64.trans h, Keep.refl _ _, ?_⟩
        have M64 := M41.step K64
        refine WP.a0 rfl rfl rfl (Ac.stA M64 ty31 rfl rfl rfl (h32_len (by first | assumption | exact h32_0)) (bytesV_one _) (i := 1) rfl (by first | (rw [h32_len (by first | assumption | exact h32_0), h32_len (by first | assumption | exact h32_0)]; decide) | (rw [h32_len (by first | assumption | exact h32_0)]; decide) | rw [h32_len (by first | assumption | exact h32_0)])) ?_; rintro v65 w65 ⟨K65, M65⟩; refine .inl ⟨rfl, Keep nof w65, ?_⟩
        try dsimp only [List.set] at M65
        rw [splice_all _ _ (by first | rw [h32_len (by first | assumption | exact h32_0), h32_len (by first | assumption | exact h32_0)] | rw [h32_len (by first | assumption | exact h32_0)])] at M65
        refine WP.nil ?_
        refine WX.next (?_)
        refine WC.seq ?_
        refine WC.region ?_
        refine WL.ex rfl rfl rfl (Ex.mv rfl) ?_
        refine WL.ex rfl rfl rfl (Ex.add rfl rfl (i64w _ (by omega) (by omega))) ?_
        refine WL.ex rfl rfl rfl (Ex.asg rfl) ?_
        refine WL.nil ?_
        refine WX.next (?_)
        refine WC.goto ?_
        refine WX.goto_then (?_)
        refine WX.goto_again (((k + 1, dNode (nd dNode e0 (ls ++ [h]) k (q - 2)) (nd dNode e0 (ls ++ [h]) k (q - 1)), vs1.set k (.slice (some ⟨bk, ok_, none⟩) q c1)) : Nat × List UInt8 × List Value)) ?_ ?_ (.cons rfl (.cons rfl (.cons rfl (.cons rfl (.nil)))))
        · dsimp only; omega
        · refine ⟨hlt, by dsimp only; omega, hum hqe, ?_, by simp [hv1], ?_⟩
          · dsimp only
            rw [hup hqe]
          · exact (Mem.sub M65 (.cons _ (.refl _)))
      · rw [hdone (.inr (by omega))] at M38
        refine WC.skip ?_
        refine WX.next (?_)
        refine WC.seq ?_
        refine WC.region ?_
        refine WL.ex rfl rfl rfl (Ex.mv rfl) ?_
        refine WL.ex rfl rfl rfl (Ex.asg rfl) ?_
        refine WL.ex rfl rfl rfl (Ex.asg rfl) ?_
        refine WL.nil ?_
        refine WX.next (?_)
        refine WC.ret ?_
        refine WX.ret_jump (?_)
        refine WX.ret2 rfl rfl rfl ?_
        rw [hta]
        exact ⟨_, rfl, (Mem.closeS (Mem.closeS (Mem.sub M38 (.cons _ (.cons _ (.refl _)))))).toTurn⟩
    · rw [decide_eq_false hev]
      rw [hdone (.inl (by omega))] at M22
      refine WL.no rfl rfl rfl rfl rfl rfl ?_
      refine WL.no rfl rfl rfl rfl rfl rfl ?_
      refine WL.no rfl rfl rfl rfl rfl rfl ?_
      refine WL.no rfl rfl rfl rfl rfl rfl ?_
      refine WL.ex rfl rfl rfl (Ex.pickF rfl rfl) ?_
      refine WL.nil ?_
      refine WX.next (?_)
      refine WC.no rfl ?_
      refine WC.skip ?_
      refine WX.next (?_)
      refine WC.seq ?_
      refine WC.region ?_
      refine WL.ex rfl rfl rfl (Ex.mv rfl) ?_
      refine WL.ex rfl rfl rfl (Ex.asg rfl) ?_
      refine WL.ex rfl rfl rfl (Ex.asg rfl) ?_
      refine WL.nil ?_
      refine WX.next (?_)
      refine WC.ret ?_
      refine WX.ret_jump (?_)
      refine WX.ret2 rfl rfl rfl ?_
      rw [hta]
      exact ⟨_, rfl, (Mem.closeS (Mem.closeS (Mem.sub M22 (.cons _ (.cons _ (.refl _)))))).toTurn⟩
  · intro hbody
    refine WC.seq ?_
    refine WC.seq ?_
    refine WC.region ?_
    refine WL.ex rfl rfl rfl (Ex.mv rfl) ?_
    refine WL.ex rfl rfl rfl (Ex.eqPn Tryd.underlying68 rfl) ?_
    refine WL.nil ?_
    refine WX.next (?_)
    refine WC.no rfl ?_
    refine WC.skip ?_
    refine WX.next (?_)
    refine WC.seq ?_
    refine WC.region ?_
    refine WL.ex rfl rfl rfl (Ex.mv rfl) ?_
    refine WL.ac rfl rfl rfl (Ac.call rfl Tryd.func59 nm59 rfl (tLen_ok w1 g gl ge d vs _ ls (⟨M1.get (i := 1) rfl, M1.get (i := 2) rfl, M1.get (i := 3) rfl, by first | exact lvOf_len _ _ | exact lvM_len _ _ _ _⟩ : TreeS w1 g gl ge d _ (lvOf dNode e0 d ls)) hl0)) ?_; rintro v79 w79 ⟨rfl, K79⟩
    have M79 := M1.step K79
    refine WL.ex rfl rfl rfl (Ex.asg rfl) ?_
    refine WL.nil ?_
    refine WX.next (?_)
    refine WC.seq ?_
    refine WC.seq ?_
    refine WC.region ?_
    refine WL.ex rfl rfl rfl (Ex.mv rfl) ?_
    refine WL.ex rfl rfl rfl (Ex.mv rfl) ?_
    refine WL.ac rfl rfl rfl (Ac.call rfl Tryd.func64 nm64 rfl (tDepth_ok w79 g gl ge d vs _ (⟨M79.get (i := 1) rfl, M79.get (i := 2) rfl, M79.get (i := 3) rfl, by first | exact lvOf_len _ _ | exact lvM_len _ _ _ _⟩ : TreeS w79 g gl ge d _ (lvOf dNode e0 d ls)) hd)) ?_; rintro v83 w83 ⟨rfl, K83⟩
    have M83 := M79.step K83
    refine WL.ex rfl rfl rfl (Ex.shr rfl rfl (m := d) rfl (c := ((ls.length / 2 ^ d : Nat) : Int)) (shrN _ _ _ (by simp [IntKind.bits]; omega))) ?_
    refine WL.ex rfl rfl rfl (Ex.neI rfl rfl) ?_
    refine WL.nil ?_
    refine WX.next (?_)
    refine WC.cond rfl (fun h17 => ?_) (fun h17 => ?_)
    · have hfull : ¬ ls.length < 2 ^ d := fun h6 => by rw [Nat.div_eq_of_lt h6] at h17; simp at h17
      have hta : tApp d ls h = (0, 7, ls) := if_neg hfull
      refine WC.seq ?_
      refine WC.region ?_
      refine WL.ex rfl rfl rfl (Ex.asg rfl) ?_
      refine WL.ex rfl rfl rfl (Ex.asg rfl) ?_
      refine WL.nil ?_
      refine WX.next (?_)
      refine WC.ret ?_
      refine WX.ret_then (WX.ret_jump (?_))
      refine WX.ret2 rfl rfl rfl ?_
      rw [hta]
      exact ⟨_, rfl, (Mem.closeS (Mem.closeS (Mem.sub M83 (.cons _ (.refl _))))).toTurn⟩
    · have hlt : ls.length < 2 ^ d := by
        have h6 : ((ls.length / 2 ^ d : Nat) : Int) = 0 := (by simpa using h17)
        have h7 : ls.length / 2 ^ d = 0 := by exact_mod_cast h6
        exact Nat.lt_of_not_le fun hle => by have := Nat.div_pos hle (Nat.pow_pos (show 0 < 2 by decide)); omega
      
      refine WC.skip ?_
      refine WX.next (?_)
      refine WC.seq ?_
      refine WC.region ?_
      refine WL.ex rfl rfl rfl (Ex.asg rfl) ?_
      refine WL.nil ?_
      refine WX.next (?_)
      refine WC.at_label (WC.sub (.cons rfl (.cons rfl (.cons rfl (.cons rfl (.nil))))) (hbody (((0, h, vs) : Nat × List UInt8 × List Value)) _ ?_))
      refine ⟨hlt, by simp, by simp [Nat.mod_one], ?_, hvl, ?_⟩
      · simp [nd, List.getD]
      · dsimp only
        rw [lvM_zero]
        exact M83

/- (*sponsion/tree.Tree).Cut -/
theorem tCut_ok (w : World) (g gl ge d : Nat) (vs : List Value) (ls : Hs) (n : Nat) (hR : (treeR g gl ge d vs (lvOf dNode e0 d ls)).sat w) (hls : ∀ a ∈ ls, H32 a) (hn : n < 18446744073709551616) (hd : d ≤ 32) :
    Gives Tryd.prog 58 #[.pointer (some ⟨g, 0, none⟩), .int .u64 (n : Int)] w fun u w1 => ∃ vs', u = .bool (decide (n ≤ ls.length)) ∧ Turn w w1 (treeR g gl ge d vs (lvOf dNode e0 d ls)) (treeR g gl ge d vs' (lvOf dNode e0 d (ls.take n))) := by
  have hvl : vs.length = d + 1 := by rw [hR.2.1.len, lvOf_len]
  have hl0 := lvOf_get (N := dNode) (e := e0) (d := d) (ls := ls) (j := 0) (by omega)
  rw [levOf_zero] at hl0
  have M0 := (Mem.begin hR).openS.openS
  refine Gives.enter (n := 40) Tryd.func58 rfl Tryd.ntmps58 rfl (env := [(0, .pointer (some ⟨g, 0, none⟩)), (1, .int .u64 (n : Int))]) rfl ?_
  refine WC.seq ?_
  refine WC.region ?_
  refine WL.ex rfl rfl rfl (Ex.asg rfl) ?_
  refine WL.nil ?_
  refine WX.next (?_)
  refine WC.seq ?_
  refine WC.seq ?_
  refine WC.region ?_
  refine WL.ex rfl rfl rfl (Ex.mv rfl) ?_
  refine WL.ex rfl rfl rfl (Ex.eqPn Tryd.underlying68 rfl) ?_
  refine WL.ex rfl rfl rfl (Ex.mv rfl) ?_
  refine WL.yes rfl rfl rfl rfl ?_
  refine WL.ex rfl rfl rfl (Ex.mv rfl) ?_
  refine WL.yes rfl rfl rfl rfl ?_
  refine WL.ex rfl rfl rfl (Ex.mv rfl) ?_
  refine WL.yes rfl rfl rfl rfl ?_
  refine WL.ac rfl rfl rfl (Ac.call rfl Tryd.func59 nm59 rfl (tLen_ok w g gl ge d vs _ ls (⟨M0.get (i := 0) rfl, M0.get (i := 1) rfl, M0.get (i := 2) rfl, by first | exact lvOf_len _ _ | exact lvM_len _ _ _ _⟩ : TreeS w g gl ge d _ (lvOf dNode e0 d ls)) hl0)) ?_; rintro v7 w7 ⟨rfl, K7⟩
  have M7 := M0.step K7
  refine WL.yes rfl rfl rfl rfl ?_
  refine WL.ex rfl rfl rfl (Ex.gtr rfl rfl) ?_
  refine WL.ex rfl rfl rfl (Ex.pickF rfl rfl) ?_
  refine WL.nil ?_
  refine WX.next (?_)
  refine WC.cond_dec rfl (fun h13 => ?_) (fun h13 => ?_)
  · have e1 : decide (n ≤ ls.length) = false := decide_eq_false (by omega)
    have e2 : ls.take n = ls := List.take_of_length_le (by omega)
    refine WC.seq ?_
    refine WC.region ?_
    refine WL.ex rfl rfl rfl (Ex.asg rfl) ?_
    refine WL.nil ?_
    refine WX.next (?_)
    refine WC.ret ?_
    refine WX.ret_then (?_)
    refine WX.ret1 rfl rfl ?_
    rw [e1, e2]
    exact ⟨_, rfl, (Mem.closeS (Mem.closeS M7)).toTurn⟩
  · have hnl : n ≤ ls.length := by omega
    have e1 : decide (n ≤ ls.length) = true := decide_eq_true hnl
    refine WC.skip ?_
    refine WX.next (?_)
    refine WC.seq ?_
    refine WC.seq ?_
    refine WC.region ?_
    refine WL.ex rfl rfl rfl (Ex.mv rfl) ?_
    refine WL.ex rfl rfl rfl (Ex.nilc rfl) ?_
    refine WL.ex rfl rfl rfl (Ex.fa fl130_0 rfl) ?_
    refine WL.ex rfl rfl rfl (Ex.load ty128 rfl (M7.cell (i := 0) (v := (.slice (some ⟨gl, 0, none⟩) (d + 1) (d + 1))) rfl rfl)) ?_
    refine WL.ex rfl rfl rfl (Ex.len Tryd.underlying128 rfl) ?_
    refine WL.ex rfl rfl rfl (Ex.mv rfl) ?_
    refine WL.nil ?_
    refine WX.next (?_)
    refine WC.block ?_
    refine WC.loop (σ := Nat × List Value) (fun s => [(0, .pointer (some ⟨g, 0, none⟩)), (1, .int .u64 (n : Int)), (18, .int .i64 ((d + 1 : Nat) : Int)), (19, .int .i64 (s.1 : Int))]) (fun s wr => s.1 ≤ d + 1 ∧ s.2.length = d + 1 ∧ Mem w wr (· ∈ (treeR g gl ge d vs (lvOf dNode e0 d ls)).fp) [blk g (tC gl ge d) 130, blk gl s.2 39, levR s.2 (lvM dNode e0 d ls (ls.take n) s.1) 31]) (fun s => d + 1 - s.1) (((0, vs) : Nat × List Value)) ?_ (.cons rfl (.cons rfl (.cons rfl (.cons rfl (.nil))))) ?_
    · refine ⟨by simp, hvl, ?_⟩
      dsimp only
      rw [lvM_zero]
      exact M7
    rintro ⟨k, vs1⟩ w17 ⟨hk, hv1, M17⟩
    dsimp only at hk hv1 M17
    refine WC.sub (env' := [(0, .pointer (some ⟨g, 0, none⟩)), (1, .int .u64 (n : Int)), (18, .int .i64 ((d + 1 : Nat) : Int)), (19, .int .i64 (k : Int))]) (.cons rfl (.cons rfl (.cons rfl (.cons rfl (.nil))))) ?_
    refine WC.seq ?_
    refine WC.region ?_
    refine WL.ex rfl rfl rfl (Ex.lss rfl rfl) ?_
    refine WL.nil ?_
    refine WX.next (?_)
    refine WC.seq ?_
    refine WC.cond_dec rfl (fun h20 => ?_) (fun h20 => ?_)
    · have hlk := lvM_get (N := dNode) (e := e0) (d := d) (ls := ls) (ls' := ls.take n) (k := k) k (by omega)
      rw [if_neg (Nat.lt_irrefl k)] at hlk
      obtain ⟨Ak, ck, hvk, _, hlc, _⟩ := LevS.at (M17.get (i := 2) rfl) hlk
      have hlen := levOf_len (N := dNode) (e := e0) ls k
      have hdl := Nat.div_le_div_right (c := 2 ^ k) hnl
      have htk := levOf_take (N := dNode) (e := e0) hnl k
      have hset := lvM_set (N := dNode) (e := e0) (d := d) (ls := ls) (ls' := ls.take n) (k := k) (by omega)
      refine WC.skip ?_
      refine WX.next (?_)
      refine WC.seq ?_
      refine WC.block ?_
      refine WC.seq ?_
      refine WC.region ?_
      refine WL.ex rfl rfl rfl (Ex.mv rfl) ?_
      refine WL.ex rfl rfl rfl (Ex.asg rfl) ?_
      refine WL.nil ?_
      refine WX.next (?_)
      refine WC.draw (Keep nof w17.drew) [17] (.one 0 0 (.one 1 0 (.one 2 0 (.one 4 0 (.one 5 0 (.one 6 0 (.one 7 0 (.one 9 0 (.one 12 0 (.one 13 0 (.one 14 0 (.one 3 1 (.one 8 1 (.one 10 0 (.one 11 1 (.one 15 0 (.one 16 0 (.one 17 2 .nil)))))))))))))))))) mixed (by kernel_rfl) (by kernel_rfl) (by kernel_rfl) (HQ.block (HQ.then_ (HQ.then_ (HQ.block (HQ.then_ HQ.body))))) ?_
      obtain ⟨w21, hw21⟩ : ∃ v, v = w17.drew := ⟨_, rfl⟩
      have D21 : Keep nof w17 w21 := by rw [hw21]; exact Keep.drew _ _
      have M21 := M17.step D21
      rw [← hw21]; clear hw21
      refine WP.p rfl rfl rfl rfl (fun _ => Ex.mv rfl) ?_
      refine WP.p rfl rfl rfl rfl (fun _ => Ex.nilc rfl) ?_
      refine WP.p rfl rfl rfl rfl (fun _ => Ex.fa fl130_0 rfl) ?_
      refine WP.p rfl rfl rfl rfl (fun _ => Ex.mv rfl) ?_
      refine WP.p rfl rfl rfl rfl (fun _ => Ex.mv rfl) ?_
      refine WP.p rfl rfl rfl rfl (fun _ => Ex.nilc rfl) ?_
      refine WP.p rfl rfl rfl rfl (fun _ => Ex.fa fl130_0 rfl) ?_
      refine WP.p rfl rfl rfl rfl (fun _ => Ex.mv rfl) ?_
      refine WP.p rfl rfl rfl rfl (fun _ => Ex.mv rfl) ?_
      refine WP.p rfl rfl rfl rfl (fun _ => Ex.mv rfl) ?_
      refine WP.p rfl rfl rfl rfl (fun _ => Ex.shr rfl rfl (m := k) rfl (c := ((n / 2 ^ k : Nat) : Int)) (shrN _ _ _ (by simp [IntKind.bits]; omega))) ?_
      refine WP.q (Keep.refl _ _) rfl rfl rfl rfl (fun w' hS => Ex.load ty128 rfl (hS.cell (M21.cell (i := 0) (v := (.slice (some ⟨gl, 0, none⟩) (d + 1) (d + 1))) rfl rfl) (fun f => f))) ?_
      refine WP.q (Keep.refl _ _) rfl rfl rfl rfl (fun w' hS => Ex.load ty128 rfl (hS.cell (M21.cell (i := 0) (v := (.slice (some ⟨gl, 0, none⟩) (d + 1) (d + 1))) rfl rfl) (fun f => f))) ?_
      refine WP.p rfl rfl rfl rfl (fun _ => Ex.ia Tryd.underlying128 sz39 rfl rfl ⟨by omega, by omega⟩) ?_
      refine WP.q (Keep.refl _ _) rfl rfl rfl rfl (fun w' hS => Ex.load ty39 rfl (hS.cell (M21.cell (i := 1) rfl (by simpa using hvk)) (fun f => f))) ?_
      refine WP.p rfl rfl rfl rfl (fun _ => Ex.slh Tryd.underlying39 sz31 rfl rfl (Int.natCast_nonneg _) (by omega)) ?_
      rw [Int.toNat_natCast]
      refine WP.p rfl rfl rfl rfl (fun _ => Ex.ia Tryd.underlying128 sz39 rfl rfl ⟨by omega, by omega⟩) ?_
      refine WP.a0 rfl rfl rfl (Ac.st M21 ty39 rfl rfl rfl (i := 1) rfl (by simp; omega)) ?_; rintro v39 w39 ⟨K39, M39⟩; refine .inl ⟨rfl, Keep nof w39, ?_⟩
      try dsimp only [List.set] at M39
      simp only [Int.toNat_natCast, Nat.mul_one, Nat.zero_add] at M39
      replace M39 := M39.cutL (i := 2) rfl hvk hlk (lev32 hls k) (by omega : n / 2 ^ k ≤ (levOf dNode e0 ls k).length)
      try dsimp only [List.set] at M39
      rw [htk, hset] at M39
      refine WP.nil ?_
      refine WX.normal_block (WX.next (?_))
      refine WC.region ?_
      refine WL.ex rfl rfl rfl (Ex.add rfl rfl (i64w _ (by omega) (by omega))) ?_
      refine WL.ex rfl rfl rfl (Ex.mv rfl) ?_
      refine WL.nil ?_
      refine WX.again (((k + 1, vs1.set k (.slice Ak (n / 2 ^ k) ck)) : Nat × List Value)) ?_ ?_ (.cons rfl (.cons rfl (.cons rfl (.cons rfl (.nil)))))
      · dsimp only; omega
      · exact ⟨by dsimp only; omega, by simp [hv1], M39⟩
    · obtain rfl : k = d + 1 := by omega
      rw [lvM_full (fun j h1 h2 => by omega)] at M17
      refine WC.exit ?_
      refine WX.exit_then (WX.exit_then (WX.exit_block (WX.next (?_))))
      refine WC.seq ?_
      refine WC.region ?_
      refine WL.ex rfl rfl rfl (Ex.asg rfl) ?_
      refine WL.nil ?_
      refine WX.next (?_)
      refine WC.ret ?_
      refine WX.ret1 rfl rfl ?_
      rw [e1]
      exact ⟨_, rfl, (Mem.closeS (Mem.closeS M17)).toTurn⟩

/- slices.Clone[[]sponsion/api.Hash,sponsion/api.Hash] -/
theorem cloneH_ok (w : World) (A : Option Addr) (c : Nat) (l : Hs) (hr : Rd w A (fl l)) (h32 : ∀ a ∈ l, H32 a) (hb : l.length ≤ 1099511627776) :
    Gives Tryd.prog 71 #[.slice A l.length c] w fun v w' => New w w' (row v 31 32 l.length (fl l)) := by
  have M0 := Mem.start w nof
  refine Gives.enter (n := 8) Tryd.func71 rfl Tryd.ntmps71 rfl (env := [(0, .slice A l.length c)]) rfl ?_
  refine WC.seq ?_
  refine WC.region ?_
  refine WL.ex rfl rfl rfl (Ex.asg rfl) ?_
  refine WL.nil ?_
  refine WX.next (?_)
  refine WC.seq ?_
  refine WC.seq ?_
  refine WC.region ?_
  refine WL.ex rfl rfl rfl (Ex.mv rfl) ?_
  refine WL.ex rfl rfl rfl (Ex.eqN Tryd.underlying39 rfl) ?_
  refine WL.nil ?_
  refine WX.next (?_)
  refine WC.cond rfl (fun hc => ?_) (fun hc => ?_)
  · have hl : l = [] := by
      cases l with
      | nil => rfl
      | cons b r => obtain ⟨b0, o0, h1, _⟩ := hr.plain (by rw [fl_len h32]; simp); subst h1; cases hc
    subst hl
    refine WC.seq ?_
    refine WC.region ?_
    refine WL.ex rfl rfl rfl (Ex.asg rfl) ?_
    refine WL.nil ?_
    refine WX.next (?_)
    refine WC.ret ?_
    refine WX.ret_then (?_)
    refine WX.ret1 rfl rfl ?_
    first | exact M0.toNew | exact (M0.free (r := row (.slice none 0 0) 31 32 0 []) (row_nil _ _ _) rfl).toNew
  · skip
    refine WC.skip ?_
    refine WX.next (?_)
    refine WC.seq ?_
    refine WC.region ?_
    refine WL.ac rfl rfl rfl (Ac.bs0 M0 Tryd.underlying39 sz31) ?_; rintro v5 w5 ⟨g5, rfl, hg5, K5, M5⟩
    refine WL.ex rfl rfl rfl (Ex.mv rfl) ?_
    refine WL.ac rfl rfl rfl (Ac.app M5 el39 rfl rfl (i := 0) rfl (fl_len h32) (M5.rd hr) (fl_one _) (by omega) (by unfold maxLen; omega)) ?_; rintro v7 w7 ⟨K7, M7⟩
    try dsimp only [List.set] at M7
    simp only [Nat.zero_add, List.nil_append] at M7
    refine WL.ex rfl rfl rfl (Ex.asg rfl) ?_
    refine WL.nil ?_
    refine WX.next (?_)
    refine WC.ret ?_
    refine WX.ret1 rfl rfl ?_
    first | exact M7.toNew | exact (M7.free (r := row (.slice none 0 0) 31 32 0 []) (row_nil _ _ _) rfl).toNew

end Go.Proofs.YtchmjpdkonfifaaDoor
