/- Walks, written by gen.py off the translation's own print: each says what the Go function comes to. -/
import Derived.Test.YtchmjpdkonfifaaDoorY2
import Derived.Test.YtchmjpdkonfifaaDoorAl
set_option linter.unusedVariables false
set_option linter.unusedSimpArgs false
namespace Go.Proofs.YtchmjpdkonfifaaDoor
open Go.Sx Go.RowKit
attribute [local irreducible] Ac Ex WL WC WX WP Gives sha

def tApp (d : Nat) (ls : Hs) (h : List UInt8) : Nat × Int × Hs := if ls.length < 2 ^ d then (ls.length, 0, ls ++ [h]) else (0, 7, ls)
theorem ES.keepF {w w' : World} {ge d : Nat} {fp : List Nat} (h : ES w ge d) (k : Keep (· ∈ fp) w w') (hF : ge ∉ fp) : ES w' ge d := Rd.keep h k fun a ha hm => by injection ha with ha; subst ha; exact hF hm
theorem app32 {ls : Hs} {h : List UInt8} (hl : ∀ a ∈ ls, H32 a) (hh : H32 h) : ∀ a ∈ ls ++ [h], H32 a := by
  intro a ha
  rcases List.mem_append.1 ha with ha | ha
  · exact hl a ha
  · obtain rfl : a = h := by simpa using ha
    exact hh
theorem tApp32 {d : Nat} {ls : Hs} {h : List UInt8} (hl : ∀ a ∈ ls, H32 a) (hh : H32 h) : ∀ a ∈ (tApp d ls h).2.2, H32 a := by
  unfold tApp
  split
  · exact app32 hl hh
  · exact hl

/- (*sponsion/tree.Tree).Append -/
theorem tAppend_ok (w : World) (g gl ge d : Nat) (vs : List Value) (ls : Hs) (h : List UInt8) (hR : (treeR g gl ge d vs (lvOf dNode e0 d ls)).sat w) (hls : ∀ a ∈ ls, H32 a) (hh : H32 h) (hd : d ≤ 32) (hT : Tabs w) (hFT : ∀ b ∈ (treeR g gl ge d vs (lvOf dNode e0 d ls)).fp, b ≠ 1 ∧ b ≠ 2) :
    Gives Tryd.prog 54 #[.pointer (some ⟨g, 0, none⟩), .agg (bytesV h).toArray] w fun u w1 => ∃ vs', u = .tuple #[.int .u64 ((tApp d ls h).1 : Int), .int .i64 (tApp d ls h).2.1] ∧ Turn w w1 (treeR g gl ge d vs (lvOf dNode e0 d ls)) (treeR g gl ge d vs' (lvOf dNode e0 d (tApp d ls h).2.2)) := by
  have hvl : vs.length = d + 1 := by rw [hR.2.1.len, lvOf_len]
  have hl0 := lvOf_get (N := dNode) (e := e0) (d := d) (ls := ls) (j := 0) (by omega)
  rw [levOf_zero] at hl0
  have M0 := (Mem.begin hR).openS.openS
  have ha32 := app32 hls hh
  refine Gives.enter (n := 77) Tryd.func54 rfl Tryd.ntmps54 rfl (env := [(0, .pointer (some ⟨g, 0, none⟩)), (1, .agg (bytesV h).toArray)]) rfl ?_
  refine qD ?_
  refine WL.ac rfl rfl rfl (Ac.box M0 rfl rfl) ?_; rintro v1 w1 ⟨gb, rfl, hg1, K1, M1⟩
  refine qB ?_
  refine qB ?_
  refine qE ?_
  refine WC.jump (σ := Nat × List UInt8 × List Value) 0 (fun s => [(0, .pointer (some ⟨g, 0, none⟩)), (3, .pointer (some ⟨gb, 0, none⟩)), (6, .int .u64 (ls.length : Int)), (7, .int .i64 (s.1 : Int))]) (fun s wr => ls.length < 2 ^ d ∧ s.1 ≤ d ∧ (ls.length + 1) % 2 ^ s.1 = 0 ∧ s.2.1 = nd dNode e0 (ls ++ [h]) s.1 (ls.length / 2 ^ s.1) ∧ s.2.2.length = d + 1 ∧ Mem w wr (· ∈ (treeR g gl ge d vs (lvOf dNode e0 d ls)).fp) [blk gb (bytesV s.2.1) 31, blk g (tC gl ge d) 130, blk gl s.2.2 39, levR s.2.2 (lvM dNode e0 d ls (ls ++ [h]) s.1) 31]) (fun s => d - s.1) rfl ?_ ?_
  · skip
    rintro ⟨k, hh, vs1⟩ w4 ⟨hlt, hk, hm, hhe, hv1, M4⟩
    dsimp only at hlt hk hm hhe hv1 M4
    refine WC.sub (env' := [(0, .pointer (some ⟨g, 0, none⟩)), (3, .pointer (some ⟨gb, 0, none⟩)), (6, .int .u64 (ls.length : Int)), (7, .int .i64 (k : Int))]) (.cons rfl (.cons rfl (.cons rfl (.cons rfl (.nil))))) ?_
    refine WC.seq ?_
    have D5 := Keep.drew nof w4
    have M5 := M4.step D5
    refine WC.draw (Keep (FP M5 [3]) w4.drew) [16] (.one 0 0 (.one 1 0 (.one 2 0 (.one 4 0 (.one 5 0 (.one 6 0 (.one 7 0 (.one 9 0 (.one 3 1 (.one 8 1 (.one 10 0 (.one 11 1 (.one 12 1 (.one 13 2 (.one 14 2 (.one 15 0 (.one 16 2 .nil))))))))))))))))) mixed (by kernel_rfl) (by kernel_rfl) (by kernel_rfl) (HQ.then_ (HQ.jump HQ.body)) ?_
    revert D5 M5; generalize w4.drew = w5; intro D5 M5
    have B5 : Mem w5 w5 (FP M5 [3]) [_] := M5.base [3] (by decide)
    have hta : tApp d ls h = (ls.length, 0, ls ++ [h]) := if_pos hlt
    have hlb : ls.length < 4294967296 := Nat.lt_of_lt_of_le hlt (Nat.pow_le_pow_right (show 0 < 2 by decide) hd)
    have hh32 : H32 hh := by rw [hhe]; exact nd32 ha32 _ _
    have hlk := lvM_get (N := dNode) (e := e0) (d := d) (ls := ls) (ls' := ls ++ [h]) (k := k) k hk
    rw [if_neg (Nat.lt_irrefl k)] at hlk
    obtain ⟨Ak, ck, hvk, _, _, _⟩ := LevS.at (M5.get (i := 3) rfl) hlk
    have hlen := levOf_len (N := dNode) (e := e0) ls k
    have hdl := Nat.div_le_self ls.length (2 ^ k)
    have hsn : levOf dNode e0 ls k ++ [hh] = levOf dNode e0 (ls ++ [h]) k := by rw [hhe, levOf_snoc hm]
    have hsl := levOf_len (N := dNode) (e := e0) (ls ++ [h]) k
    rw [List.length_append, List.length_singleton] at hsl
    obtain ⟨q, hq⟩ : ∃ q, q = (ls.length + 1) / 2 ^ k := ⟨_, rfl⟩
    rw [← hq] at hsl
    refine qC ?_
    refine WP.p rfl rfl rfl rfl (fun _ => Ex.nilc rfl) ?_
    refine WP.p rfl rfl rfl rfl (fun _ => Ex.fa fl130_0 rfl) ?_
    refine qC ?_
    refine qC ?_
    refine WP.p rfl rfl rfl rfl (fun _ => Ex.nilc rfl) ?_
    refine WP.p rfl rfl rfl rfl (fun _ => Ex.fa fl130_0 rfl) ?_
    refine qC ?_
    refine WP.q B5.keep rfl rfl rfl rfl (fun w' hS => Ex.load ty128 rfl (M5.fp_cell (j := 1) hS rfl (v := (.slice (some ⟨gl, 0, none⟩) (d + 1) (d + 1))) rfl rfl)) ?_
    refine WP.q B5.keep rfl rfl rfl rfl (fun w' hS => Ex.load ty128 rfl (M5.fp_cell (j := 1) hS rfl (v := (.slice (some ⟨gl, 0, none⟩) (d + 1) (d + 1))) rfl rfl)) ?_
    refine WP.p rfl rfl rfl rfl (fun _ => Ex.ia Tryd.underlying128 sz39 rfl rfl ⟨by omega, by omega⟩) ?_
    refine WP.q B5.keep rfl rfl rfl rfl (fun w' hS => Ex.load ty39 rfl (M5.fp_cell (j := 2) hS rfl (by simpa using hvk) rfl)) ?_
    refine WP.q B5.keep rfl rfl rfl rfl (fun w' hS => Ex.loadA ty31 rfl (h32_len (by first | assumption | exact h32_0)) (M5.fp_rdw (j := 0) hS rfl rfl)) ?_
    refine WP.a rfl rfl rfl rfl (Ac.bs M5 (parts := [(0, .tmp 30)]) rfl rfl (LitS.agg1 el39 rfl (by simpa using hh32) (by decide))) ?_; rintro v19 w19 ⟨gp, rfl, hg19, K19, M19⟩
    have B19 := B5.step K19
    refine .inr ⟨fun _ => B19.keep, ?_⟩
    refine WP.a rfl rfl rfl rfl (Ac.appL (M19.get (i := 4) rfl) el39 rfl rfl hvk hlk hh32 (M19.rdw (i := 0) rfl) (by omega) (by unfold maxLen; omega)) ?_; rintro v20 w20 T20
    have B20 := B19.turned (i := 0) rfl T20
    refine .inr ⟨fun _ => B20.keep, ?_⟩
    have M20 := M19.turned (i := 4) rfl T20
    try dsimp only [List.set] at M20
    obtain ⟨A1, c1, rfl⟩ := LevS.slice (M20.get (i := 4) rfl) (by omega)
    rw [hsn, hsl, lvM_set hk] at M20
    rw [hsn, hsl]
    refine WP.p rfl rfl rfl rfl (fun _ => Ex.ia Tryd.underlying128 sz39 rfl rfl ⟨by omega, by omega⟩) ?_
    refine WP.a0 rfl rfl rfl (Ac.st M20 ty39 rfl rfl rfl (i := 3) rfl (by simp; omega)) ?_; rintro v22 w22 ⟨K22, M22⟩; refine .inl ⟨rfl, Keep nof w22, ?_⟩
    try dsimp only [List.set] at M22
    simp only [Int.toNat_natCast, Nat.mul_one, Nat.zero_add] at M22
    refine WP.nil ?_
    refine WX.next ?_
    refine WC.seq ?_
    refine qD ?_
    have hvk2 : (vs1.set k (.slice A1 q c1))[k]? = some (.slice A1 q c1) := List.getElem?_set_self (by omega)
    have hlk2 := lvM_get (N := dNode) (e := e0) (d := d) (ls := ls) (ls' := ls ++ [h]) (k := k + 1) k hk
    rw [if_pos (Nat.lt_succ_self k)] at hlk2
    have hq1 : q = ls.length / 2 ^ k + 1 := by rw [hq, Nat.succ_div, if_pos (Nat.dvd_of_mod_eq_zero hm)]
    have hup := nd_up (N := dNode) (e := e0) (ls := ls ++ [h]) hm
    have hum := up_mod hm
    have hdone := lvM_done (N := dNode) (e := e0) (d := d) (h := h) hm
    rw [← hq] at hup hum hdone
    refine qA ?_
    refine WL.ex rfl rfl rfl (Ex.nilc rfl) ?_
    refine WL.ex rfl rfl rfl (Ex.fa fl130_0 rfl) ?_
    refine WL.ex rfl rfl rfl (Ex.load ty128 rfl (M22.cell (i := 2) (v := (.slice (some ⟨gl, 0, none⟩) (d + 1) (d + 1))) rfl rfl)) ?_
    refine qA ?_
    refine WL.ex rfl rfl rfl (Ex.ia Tryd.underlying128 sz39 rfl rfl ⟨by omega, by omega⟩) ?_
    refine WL.ex rfl rfl rfl (Ex.load ty39 rfl (M22.cell (i := 3) rfl (by simpa using hvk2))) ?_
    refine WL.ex rfl rfl rfl (Ex.len Tryd.underlying39 rfl) ?_
    refine qB ?_
    refine qE ?_
    refine qD ?_
    refine qA ?_
    refine WL.ex rfl rfl rfl (Ex.rem rfl rfl (by decide) (c := ((q % 2 : Nat) : Int)) (tmodT _ 2)) ?_
    refine WL.ex rfl rfl rfl (Ex.eqI rfl rfl) ?_
    refine qA ?_
    by_cases hev : ((q % 2 : Nat) : Int) = 0
    · rw [decide_eq_true hev]
      have hqe : q % 2 = 0 := by omega
      refine WL.yes rfl rfl rfl rfl ?_
      refine qA ?_
      refine WL.yes rfl rfl rfl rfl ?_
      refine qA ?_
      refine WL.yes rfl rfl rfl rfl ?_
      refine WL.ac rfl rfl rfl (Ac.call rfl Tryd.func64 nm64 rfl (tDepth_ok w22 g gl ge d _ _ (⟨M22.get (i := 2) rfl, M22.get (i := 3) rfl, M22.get (i := 4) rfl, by first | exact lvOf_len _ _ | exact lvM_len _ _ _ _⟩ : TreeS w22 g gl ge d _ (lvM dNode e0 d ls (ls ++ [h]) (k + 1))) hd)) ?_; rintro v38 w38 ⟨rfl, K38⟩
      have M38 := M22.step K38
      refine WL.yes rfl rfl rfl rfl ?_
      refine WL.ex rfl rfl rfl (Ex.lss rfl rfl) ?_
      refine WL.ex rfl rfl rfl (Ex.pickT rfl rfl) ?_
      refine qE ?_
      refine WC.cond_dec rfl (fun h50 => ?_) (fun h50 => ?_)
      · have hrow := LevS.row (M38.get (i := 4) rfl) k _ _ hvk2 hlk2
        obtain ⟨bk, ok_, hA1⟩ : ∃ b o, A1 = some ⟨b, o, none⟩ := by
          obtain ⟨b, o, h1, _⟩ := (rd_of_own (by rw [hsl] at hrow; exact hrow)).plain (by rw [fl_len (lev32 ha32 k), hsl]; omega)
          exact ⟨b, o, h1⟩
        subst hA1
        rw [hsl] at hrow
        have hrk := rd_of_own hrow
        have hx32 := nd32 ha32 k (q - 2)
        have hy32 := nd32 ha32 k (q - 1)
        have hz32 := dNode_len (nd dNode e0 (ls ++ [h]) k (q - 2)) (nd dNode e0 (ls ++ [h]) k (q - 1))
        refine WC.seq ?_
        refine WC.draw (Keep nof w38.drew) [23] (.one 0 0 (.one 1 0 (.one 2 0 (.one 4 0 (.one 7 0 (.one 8 0 (.one 11 0 (.one 12 0 (.one 13 0 (.one 15 0 (.one 18 0 (.one 19 0 (.one 3 1 (.one 5 0 (.one 6 1 (.one 9 0 (.one 10 1 (.one 14 1 (.one 16 0 (.one 17 1 (.one 20 0 (.one 21 1 (.one 22 2 (.one 23 2 .nil)))))))))))))))))))))))) mixed (by kernel_rfl) (by kernel_rfl) (by kernel_rfl) (HQ.then_ (HQ.then_ (HQ.jump HQ.body))) ?_
        obtain ⟨w41, hw41⟩ : ∃ v, v = w38.drew := ⟨_, rfl⟩
        have D41 : Keep nof w38 w41 := by rw [hw41]; exact Keep.drew _ _
        have M41 := M38.step D41
        rw [← hw41]; clear hw41
        refine qC ?_
        refine WP.p rfl rfl rfl rfl (fun _ => Ex.nilc rfl) ?_
        refine WP.p rfl rfl rfl rfl (fun _ => Ex.fa fl130_0 rfl) ?_
        refine qC ?_
        refine qC ?_
        refine WP.p rfl rfl rfl rfl (fun _ => Ex.sub rfl rfl (c := ((q - 2 : Nat) : Int)) (by rw [i64w _ (by omega) (by omega)]; omega)) ?_
        refine qC ?_
        refine WP.p rfl rfl rfl rfl (fun _ => Ex.nilc rfl) ?_
        refine WP.p rfl rfl rfl rfl (fun _ => Ex.fa fl130_0 rfl) ?_
        refine qC ?_
        refine qC ?_
        refine WP.p rfl rfl rfl rfl (fun _ => Ex.sub rfl rfl (c := ((q - 1 : Nat) : Int)) (by rw [i64w _ (by omega) (by omega)]; omega)) ?_
        refine WP.q (Keep.refl _ _) rfl rfl rfl rfl (fun w' hS => Ex.load ty128 rfl (hS.cell (M41.cell (i := 2) (v := (.slice (some ⟨gl, 0, none⟩) (d + 1) (d + 1))) rfl rfl) (fun f => f))) ?_
        refine WP.p rfl rfl rfl rfl (fun _ => Ex.ia Tryd.underlying128 sz39 rfl rfl ⟨by omega, by omega⟩) ?_
        refine WP.q (Keep.refl _ _) rfl rfl rfl rfl (fun w' hS => Ex.load ty39 rfl (hS.cell (M41.cell (i := 3) rfl (by simpa using hvk2)) (fun f => f))) ?_
        refine WP.p rfl rfl rfl rfl (fun _ => Ex.ia Tryd.underlying39 sz31 rfl rfl ⟨by omega, by omega⟩) ?_
        refine WP.q (Keep.refl _ _) rfl rfl rfl rfl (fun w' hS => Ex.loadA ty31 rfl (l := bytesV (nd dNode e0 (ls ++ [h]) k (q - 2))) (by simpa using hx32) (fl_at (hrk.keep0 (D41.trans hS)) (lev32 ha32 k) (levOf_get (p := q - 2) (by rw [List.length_append, List.length_singleton, ← hq]; omega)) (by simp))) ?_
        refine WP.q (Keep.refl _ _) rfl rfl rfl rfl (fun w' hS => Ex.load ty128 rfl (hS.cell (M41.cell (i := 2) (v := (.slice (some ⟨gl, 0, none⟩) (d + 1) (d + 1))) rfl rfl) (fun f => f))) ?_
        refine WP.p rfl rfl rfl rfl (fun _ => Ex.ia Tryd.underlying128 sz39 rfl rfl ⟨by omega, by omega⟩) ?_
        refine WP.q (Keep.refl _ _) rfl rfl rfl rfl (fun w' hS => Ex.load ty39 rfl (hS.cell (M41.cell (i := 3) rfl (by simpa using hvk2)) (fun f => f))) ?_
        refine WP.p rfl rfl rfl rfl (fun _ => Ex.ia Tryd.underlying39 sz31 rfl rfl ⟨by omega, by omega⟩) ?_
        refine WP.q (Keep.refl _ _) rfl rfl rfl rfl (fun w' hS => Ex.loadA ty31 rfl (l := bytesV (nd dNode e0 (ls ++ [h]) k (q - 1))) (by simpa using hy32) (fl_at (hrk.keep0 (D41.trans hS)) (lev32 ha32 k) (levOf_get (p := q - 1) (by rw [List.length_append, List.length_singleton, ← hq]; omega)) (by simp))) ?_
        refine WP.as rfl rfl rfl rfl (Ac.call rfl Tryd.func74 nm74 rfl (node_ok w41 _ _ hx32 hy32 (hT.keepF M41.keep hFT))) ?_; rintro v64 w64 ⟨rfl, K64⟩
        refine ⟨Keep nof w64, fun u h => K64.trans h, Keep.refl _ _, ?_⟩
        have M64 := M41.step K64
        refine WP.a0 rfl rfl rfl (Ac.stA M64 ty31 rfl rfl rfl (h32_len (by first | assumption | exact h32_0)) (bytesV_one _) (i := 1) rfl (by first | (rw [h32_len (by first | assumption | exact h32_0), h32_len (by first | assumption | exact h32_0)]; decide) | (rw [h32_len (by first | assumption | exact h32_0)]; decide) | rw [h32_len (by first | assumption | exact h32_0)])) ?_; rintro v65 w65 ⟨K65, M65⟩; refine .inl ⟨rfl, Keep nof w65, ?_⟩
        try dsimp only [List.set] at M65
        rw [splice_all _ _ (by first | rw [h32_len (by first | assumption | exact h32_0), h32_len (by first | assumption | exact h32_0)] | rw [h32_len (by first | assumption | exact h32_0)])] at M65
        refine WP.nil ?_
        refine WX.next ?_
        refine qD ?_
        refine qA ?_
        refine WL.ex rfl rfl rfl (Ex.add rfl rfl (i64w _ (by omega) (by omega))) ?_
        refine qB ?_
        refine qE ?_
        refine WC.goto ?_
        refine WX.goto_then (?_)
        refine WX.goto_again (((k + 1, dNode (nd dNode e0 (ls ++ [h]) k (q - 2)) (nd dNode e0 (ls ++ [h]) k (q - 1)), vs1.set k (.slice (some ⟨bk, ok_, none⟩) q c1)) : Nat × List UInt8 × List Value)) ?_ ?_ (.cons rfl (.cons rfl (.cons rfl (.cons rfl (.nil)))))
        · dsimp only; omega
        · refine ⟨hlt, by dsimp only; omega, hum hqe, ?_, by simp [hv1], ?_⟩
          · dsimp only
            rw [hup hqe]
          · exact (Mem.sub M65 (.cons _ (.refl _)))
      · rw [hdone (.inr (by omega))] at M38
        refine WC.skip ?_
        refine WX.next ?_
        refine qD ?_
        refine qA ?_
        refine qB ?_
        refine qB ?_
        refine qE ?_
        refine WC.ret ?_
        refine WX.ret_jump (?_)
        refine WX.ret2 rfl rfl rfl ?_
        rw [hta]
        exact ⟨_, rfl, (Mem.closeS (Mem.closeS (Mem.sub M38 (.cons _ (.cons _ (.refl _)))))).toTurn⟩
    · rw [decide_eq_false hev]
      rw [hdone (.inl (by omega))] at M22
      refine WL.no rfl rfl rfl rfl rfl rfl ?_
      refine WL.no rfl rfl rfl rfl rfl rfl ?_
      refine WL.no rfl rfl rfl rfl rfl rfl ?_
      refine WL.no rfl rfl rfl rfl rfl rfl ?_
      refine WL.ex rfl rfl rfl (Ex.pickF rfl rfl) ?_
      refine qE ?_
      refine WC.no rfl ?_
      refine WC.skip ?_
      refine WX.next ?_
      refine qD ?_
      refine qA ?_
      refine qB ?_
      refine qB ?_
      refine qE ?_
      refine WC.ret ?_
      refine WX.ret_jump (?_)
      refine WX.ret2 rfl rfl rfl ?_
      rw [hta]
      exact ⟨_, rfl, (Mem.closeS (Mem.closeS (Mem.sub M22 (.cons _ (.cons _ (.refl _)))))).toTurn⟩
  · intro hbody
    refine WC.seq ?_
    refine qD ?_
    refine qA ?_
    refine WL.ex rfl rfl rfl (Ex.eqPn Tryd.underlying68 rfl) ?_
    refine qE ?_
    refine WC.no rfl ?_
    refine WC.skip ?_
    refine WX.next ?_
    refine qD ?_
    refine qA ?_
    refine WL.ac rfl rfl rfl (Ac.call rfl Tryd.func59 nm59 rfl (tLen_ok w1 g gl ge d vs _ ls (⟨M1.get (i := 1) rfl, M1.get (i := 2) rfl, M1.get (i := 3) rfl, by first | exact lvOf_len _ _ | exact lvM_len _ _ _ _⟩ : TreeS w1 g gl ge d _ (lvOf dNode e0 d ls)) hl0)) ?_; rintro v79 w79 ⟨rfl, K79⟩
    have M79 := M1.step K79
    refine qB ?_
    refine qE ?_
    refine WC.seq ?_
    refine qD ?_
    refine qA ?_
    refine qA ?_
    refine WL.ac rfl rfl rfl (Ac.call rfl Tryd.func64 nm64 rfl (tDepth_ok w79 g gl ge d vs _ (⟨M79.get (i := 1) rfl, M79.get (i := 2) rfl, M79.get (i := 3) rfl, by first | exact lvOf_len _ _ | exact lvM_len _ _ _ _⟩ : TreeS w79 g gl ge d _ (lvOf dNode e0 d ls)) hd)) ?_; rintro v83 w83 ⟨rfl, K83⟩
    have M83 := M79.step K83
    refine WL.ex rfl rfl rfl (Ex.shr rfl rfl (m := d) rfl (c := ((ls.length / 2 ^ d : Nat) : Int)) (shrN _ _ _ (by simp [IntKind.bits]; omega))) ?_
    refine WL.ex rfl rfl rfl (Ex.neI rfl rfl) ?_
    refine qE ?_
    refine WC.cond rfl (fun h17 => ?_) (fun h17 => ?_)
    · have hfull : ¬ ls.length < 2 ^ d := fun h6 => by rw [Nat.div_eq_of_lt h6] at h17; simp at h17
      have hta : tApp d ls h = (0, 7, ls) := if_neg hfull
      refine qD ?_
      refine qB ?_
      refine qB ?_
      refine qE ?_
      refine WC.ret ?_
      refine WX.ret_then (WX.ret_jump (?_))
      refine WX.ret2 rfl rfl rfl ?_
      rw [hta]
      exact ⟨_, rfl, (Mem.closeS (Mem.closeS (Mem.sub M83 (.cons _ (.refl _))))).toTurn⟩
    · have hlt : ls.length < 2 ^ d := by
        have h6 : ((ls.length / 2 ^ d : Nat) : Int) = 0 := (by simpa using h17)
        have h7 : ls.length / 2 ^ d = 0 := by exact_mod_cast h6
        exact Nat.lt_of_not_le fun hle => by have := Nat.div_pos hle (Nat.pow_pos (show 0 < 2 by decide)); omega
      
      refine WC.skip ?_
      refine WX.next ?_
      refine qD ?_
      refine qB ?_
      refine qE ?_
      refine WC.at_label (WC.sub (.cons rfl (.cons rfl (.cons rfl (.cons rfl (.nil))))) (hbody (((0, h, vs) : Nat × List UInt8 × List Value)) _ ?_))
      refine ⟨hlt, by simp, by simp [Nat.mod_one], ?_, hvl, ?_⟩
      · simp [nd, List.getD]
      · dsimp only
        rw [lvM_zero]
        exact M83

/- (*sponsion/tree.Tree).Cut -/
theorem tCut_ok (w : World) (g gl ge d : Nat) (vs : List Value) (ls : Hs) (n : Nat) (hR : (treeR g gl ge d vs (lvOf dNode e0 d ls)).sat w) (hls : ∀ a ∈ ls, H32 a) (hn : n < 18446744073709551616) (hd : d ≤ 32) :
    Gives Tryd.prog 58 #[.pointer (some ⟨g, 0, none⟩), .int .u64 (n : Int)] w fun u w1 => ∃ vs', u = .bool (decide (n ≤ ls.length)) ∧ Turn w w1 (treeR g gl ge d vs (lvOf dNode e0 d ls)) (treeR g gl ge d vs' (lvOf dNode e0 d (ls.take n))) := by
  have hvl : vs.length = d + 1 := by rw [hR.2.1.len, lvOf_len]
  have hl0 := lvOf_get (N := dNode) (e := e0) (d := d) (ls := ls) (j := 0) (by omega)
  rw [levOf_zero] at hl0
  have M0 := (Mem.begin hR).openS.openS
  refine Gives.enter (n := 40) Tryd.func58 rfl Tryd.ntmps58 rfl (env := [(0, .pointer (some ⟨g, 0, none⟩)), (1, .int .u64 (n : Int))]) rfl ?_
  refine qD ?_
  refine qB ?_
  refine qE ?_
  refine WC.seq ?_
  refine qD ?_
  refine qA ?_
  refine WL.ex rfl rfl rfl (Ex.eqPn Tryd.underlying68 rfl) ?_
  refine qA ?_
  refine WL.yes rfl rfl rfl rfl ?_
  refine qA ?_
  refine WL.yes rfl rfl rfl rfl ?_
  refine qA ?_
  refine WL.yes rfl rfl rfl rfl ?_
  refine WL.ac rfl rfl rfl (Ac.call rfl Tryd.func59 nm59 rfl (tLen_ok w g gl ge d vs _ ls (⟨M0.get (i := 0) rfl, M0.get (i := 1) rfl, M0.get (i := 2) rfl, by first | exact lvOf_len _ _ | exact lvM_len _ _ _ _⟩ : TreeS w g gl ge d _ (lvOf dNode e0 d ls)) hl0)) ?_; rintro v7 w7 ⟨rfl, K7⟩
  have M7 := M0.step K7
  refine WL.yes rfl rfl rfl rfl ?_
  refine WL.ex rfl rfl rfl (Ex.gtr rfl rfl) ?_
  refine WL.ex rfl rfl rfl (Ex.pickF rfl rfl) ?_
  refine qE ?_
  refine WC.cond_dec rfl (fun h13 => ?_) (fun h13 => ?_)
  · have e1 : decide (n ≤ ls.length) = false := decide_eq_false (by omega)
    have e2 : ls.take n = ls := List.take_of_length_le (by omega)
    refine qD ?_
    refine qB ?_
    refine qE ?_
    refine WC.ret ?_
    refine WX.ret_then (?_)
    refine WX.ret1 rfl rfl ?_
    rw [e1, e2]
    exact ⟨_, rfl, (Mem.closeS (Mem.closeS M7)).toTurn⟩
  · have hnl : n ≤ ls.length := by omega
    have e1 : decide (n ≤ ls.length) = true := decide_eq_true hnl
    refine WC.skip ?_
    refine WX.next ?_
    refine WC.seq ?_
    refine qD ?_
    refine qA ?_
    refine WL.ex rfl rfl rfl (Ex.nilc rfl) ?_
    refine WL.ex rfl rfl rfl (Ex.fa fl130_0 rfl) ?_
    refine WL.ex rfl rfl rfl (Ex.load ty128 rfl (M7.cell (i := 0) (v := (.slice (some ⟨gl, 0, none⟩) (d + 1) (d + 1))) rfl rfl)) ?_
    refine WL.ex rfl rfl rfl (Ex.len Tryd.underlying128 rfl) ?_
    refine qA ?_
    refine qE ?_
    refine WC.block ?_
    refine WC.loop (σ := Nat × List Value) (fun s => [(0, .pointer (some ⟨g, 0, none⟩)), (1, .int .u64 (n : Int)), (18, .int .i64 ((d + 1 : Nat) : Int)), (19, .int .i64 (s.1 : Int))]) (fun s wr => s.1 ≤ d + 1 ∧ s.2.length = d + 1 ∧ Mem w wr (· ∈ (treeR g gl ge d vs (lvOf dNode e0 d ls)).fp) [blk g (tC gl ge d) 130, blk gl s.2 39, levR s.2 (lvM dNode e0 d ls (ls.take n) s.1) 31]) (fun s => d + 1 - s.1) (((0, vs) : Nat × List Value)) ?_ (.cons rfl (.cons rfl (.cons rfl (.cons rfl (.nil))))) ?_
    · refine ⟨by simp, hvl, ?_⟩
      dsimp only
      rw [lvM_zero]
      exact M7
    rintro ⟨k, vs1⟩ w17 ⟨hk, hv1, M17⟩
    dsimp only at hk hv1 M17
    refine WC.sub (env' := [(0, .pointer (some ⟨g, 0, none⟩)), (1, .int .u64 (n : Int)), (18, .int .i64 ((d + 1 : Nat) : Int)), (19, .int .i64 (k : Int))]) (.cons rfl (.cons rfl (.cons rfl (.cons rfl (.nil))))) ?_
    refine qD ?_
    refine WL.ex rfl rfl rfl (Ex.lss rfl rfl) ?_
    refine qE ?_
    refine WC.seq ?_
    refine WC.cond_dec rfl (fun h20 => ?_) (fun h20 => ?_)
    · have hlk := lvM_get (N := dNode) (e := e0) (d := d) (ls := ls) (ls' := ls.take n) (k := k) k (by omega)
      rw [if_neg (Nat.lt_irrefl k)] at hlk
      obtain ⟨Ak, ck, hvk, _, hlc, _⟩ := LevS.at (M17.get (i := 2) rfl) hlk
      have hlen := levOf_len (N := dNode) (e := e0) ls k
      have hdl := Nat.div_le_div_right (c := 2 ^ k) hnl
      have htk := levOf_take (N := dNode) (e := e0) hnl k
      have hset := lvM_set (N := dNode) (e := e0) (d := d) (ls := ls) (ls' := ls.take n) (k := k) (by omega)
      refine WC.skip ?_
      refine WX.next ?_
      refine WC.seq ?_
      refine WC.block ?_
      refine qD ?_
      refine qA ?_
      refine qB ?_
      refine qE ?_
      refine WC.draw (Keep nof w17.drew) [17] (.one 0 0 (.one 1 0 (.one 2 0 (.one 4 0 (.one 5 0 (.one 6 0 (.one 7 0 (.one 9 0 (.one 12 0 (.one 13 0 (.one 14 0 (.one 3 1 (.one 8 1 (.one 10 0 (.one 11 1 (.one 15 0 (.one 16 0 (.one 17 2 .nil)))))))))))))))))) mixed (by kernel_rfl) (by kernel_rfl) (by kernel_rfl) (HQ.block (HQ.then_ (HQ.then_ (HQ.block (HQ.then_ HQ.body))))) ?_
      obtain ⟨w21, hw21⟩ : ∃ v, v = w17.drew := ⟨_, rfl⟩
      have D21 : Keep nof w17 w21 := by rw [hw21]; exact Keep.drew _ _
      have M21 := M17.step D21
      rw [← hw21]; clear hw21
      refine qC ?_
      refine WP.p rfl rfl rfl rfl (fun _ => Ex.nilc rfl) ?_
      refine WP.p rfl rfl rfl rfl (fun _ => Ex.fa fl130_0 rfl) ?_
      refine qC ?_
      refine qC ?_
      refine WP.p rfl rfl rfl rfl (fun _ => Ex.nilc rfl) ?_
      refine WP.p rfl rfl rfl rfl (fun _ => Ex.fa fl130_0 rfl) ?_
      refine qC ?_
      refine qC ?_
      refine qC ?_
      refine WP.p rfl rfl rfl rfl (fun _ => Ex.shr rfl rfl (m := k) rfl (c := ((n / 2 ^ k : Nat) : Int)) (shrN _ _ _ (by simp [IntKind.bits]; omega))) ?_
      refine WP.q (Keep.refl _ _) rfl rfl rfl rfl (fun w' hS => Ex.load ty128 rfl (hS.cell (M21.cell (i := 0) (v := (.slice (some ⟨gl, 0, none⟩) (d + 1) (d + 1))) rfl rfl) (fun f => f))) ?_
      refine WP.q (Keep.refl _ _) rfl rfl rfl rfl (fun w' hS => Ex.load ty128 rfl (hS.cell (M21.cell (i := 0) (v := (.slice (some ⟨gl, 0, none⟩) (d + 1) (d + 1))) rfl rfl) (fun f => f))) ?_
      refine WP.p rfl rfl rfl rfl (fun _ => Ex.ia Tryd.underlying128 sz39 rfl rfl ⟨by omega, by omega⟩) ?_
      refine WP.q (Keep.refl _ _) rfl rfl rfl rfl (fun w' hS => Ex.load ty39 rfl (hS.cell (M21.cell (i := 1) rfl (by simpa using hvk)) (fun f => f))) ?_
      refine WP.p rfl rfl rfl rfl (fun _ => Ex.slh Tryd.underlying39 sz31 rfl rfl (Int.natCast_nonneg _) (by omega)) ?_
      rw [Int.toNat_natCast]
      refine WP.p rfl rfl rfl rfl (fun _ => Ex.ia Tryd.underlying128 sz39 rfl rfl ⟨by omega, by omega⟩) ?_
      refine WP.a0 rfl rfl rfl (Ac.st M21 ty39 rfl rfl rfl (i := 1) rfl (by simp; omega)) ?_; rintro v39 w39 ⟨K39, M39⟩; refine .inl ⟨rfl, Keep nof w39, ?_⟩
      try dsimp only [List.set] at M39
      simp only [Int.toNat_natCast, Nat.mul_one, Nat.zero_add] at M39
      replace M39 := M39.cutL (i := 2) rfl hvk hlk (lev32 hls k) (by omega : n / 2 ^ k ≤ (levOf dNode e0 ls k).length)
      try dsimp only [List.set] at M39
      rw [htk, hset] at M39
      refine WP.nil ?_
      refine WX.normal_block (WX.next (?_))
      refine WC.region ?_
      refine WL.ex rfl rfl rfl (Ex.add rfl rfl (i64w _ (by omega) (by omega))) ?_
      refine qA ?_
      refine WL.nil ?_
      refine WX.again (((k + 1, vs1.set k (.slice Ak (n / 2 ^ k) ck)) : Nat × List Value)) ?_ ?_ (.cons rfl (.cons rfl (.cons rfl (.cons rfl (.nil)))))
      · dsimp only; omega
      · exact ⟨by dsimp only; omega, by simp [hv1], M39⟩
    · obtain rfl : k = d + 1 := by omega
      rw [lvM_full (fun j h1 h2 => by omega)] at M17
      refine WC.exit ?_
      refine WX.exit_then (WX.exit_then (WX.exit_block (WX.next (?_))))
      refine qD ?_
      refine qB ?_
      refine qE ?_
      refine WC.ret ?_
      refine WX.ret1 rfl rfl ?_
      rw [e1]
      exact ⟨_, rfl, (Mem.closeS (Mem.closeS M17)).toTurn⟩

/- slices.Clone[[]sponsion/api.Hash,sponsion/api.Hash] -/
theorem cloneH_ok (w : World) (A : Option Addr) (c : Nat) (l : Hs) (hr : Rd w A (fl l)) (h32 : ∀ a ∈ l, H32 a) (hb : l.length ≤ 1099511627776) :
    Gives Tryd.prog 71 #[.slice A l.length c] w fun v w' => New w w' (row v 31 32 l.length (fl l)) := by
  have M0 := Mem.start w nof
  refine Gives.enter (n := 8) Tryd.func71 rfl Tryd.ntmps71 rfl (env := [(0, .slice A l.length c)]) rfl ?_
  refine qD ?_
  refine qB ?_
  refine qE ?_
  refine WC.seq ?_
  refine qD ?_
  refine qA ?_
  refine WL.ex rfl rfl rfl (Ex.eqN Tryd.underlying39 rfl) ?_
  refine qE ?_
  refine WC.cond rfl (fun hc => ?_) (fun hc => ?_)
  · have hl : l = [] := by
      cases l with
      | nil => rfl
      | cons b r => obtain ⟨b0, o0, h1, _⟩ := hr.plain (by rw [fl_len h32]; simp); subst h1; cases hc
    subst hl
    refine qD ?_
    refine qB ?_
    refine qE ?_
    refine WC.ret ?_
    refine WX.ret_then (?_)
    refine WX.ret1 rfl rfl ?_
    first | exact M0.toNew | exact (M0.free (r := row (.slice none 0 0) 31 32 0 []) (row_nil _ _ _) rfl).toNew
  · skip
    refine WC.skip ?_
    refine WX.next ?_
    refine qD ?_
    refine WL.ac rfl rfl rfl (Ac.bs0 M0 Tryd.underlying39 sz31) ?_; rintro v5 w5 ⟨g5, rfl, hg5, K5, M5⟩
    refine qA ?_
    refine WL.ac rfl rfl rfl (Ac.app M5 el39 rfl rfl (i := 0) rfl (fl_len h32) (M5.rd hr) (fl_one _) (by omega) (by unfold maxLen; omega)) ?_; rintro v7 w7 ⟨K7, M7⟩
    try dsimp only [List.set] at M7
    simp only [Nat.zero_add, List.nil_append] at M7
    refine qB ?_
    refine qE ?_
    refine WC.ret ?_
    refine WX.ret1 rfl rfl ?_
    first | exact M7.toNew | exact (M7.free (r := row (.slice none 0 0) 31 32 0 []) (row_nil _ _ _) rfl).toNew

end Go.Proofs.YtchmjpdkonfifaaDoor

set_option linter.unusedVariables false
set_option linter.unusedSimpArgs false
namespace Go.Proofs.YtchmjpdkonfifaaDoor
open Go.Sx Go.RowKit
attribute [local irreducible] Ac Ex WL WC WX WP Gives sha

/-- A new tree, and the sums of the empty trees that it keeps. -/
def newR (g gl ge d : Nat) (vs : List Value) (lv : List Hs) : Res := sep (blk ge (fl (emps dNode e0 (d + 1))) 31) (treeR g gl ge d vs lv)
def nilS (m : Nat) : List Value := List.replicate m (.slice none 0 0)
theorem ES.of {w : World} {ge d : Nat} (h : (blk ge (fl (emps dNode e0 (d + 1))) 31).sat w) : ES w ge d := blk_rdt (o := 0) (m := (fl (emps dNode e0 (d + 1))).length) h (by rw [List.drop_zero, List.take_length])
theorem fillE_len (m i : Nat) : ∀ a ∈ fillTo m i (emp dNode e0) (List.replicate 32 0), H32 a := by
  intro a ha
  obtain ⟨j, _, rfl⟩ := List.mem_map.1 ha
  split
  · exact emp32 j
  · exact h32_0
theorem fillE_get {m i j : Nat} (h : j < i) (hi : i ≤ m) : (fillTo m i (emp dNode e0) (List.replicate 32 0))[j]? = some (emp dNode e0 j) := by
  rw [fillTo, List.getElem?_map, List.getElem?_range (by omega)]
  simp [h]
theorem e0_empty : emptyH (lvl 0) = e0 := rfl

/- sponsion/tree.New -/
theorem tNew_ok (w : World) (d : Nat) (hd : d ≤ 32) (hT : Tabs w) :
    Gives Tryd.prog 42 #[.int .i64 (d : Int)] w fun u w1 => ∃ g gl ge, u = .pointer (some ⟨g, 0, none⟩) ∧ New w w1 (newR g gl ge d (nilS (d + 1)) (lvOf dNode e0 d [])) := by
  have M0 := Mem.start w nof
  have ei32 := emp32
  refine Gives.enter (n := 61) Tryd.func42 rfl Tryd.ntmps42 rfl (env := [(0, .int .i64 (d : Int))]) rfl ?_
  refine qD ?_
  refine qB ?_
  refine qE ?_
  refine WC.seq ?_
  refine qD ?_
  refine qA ?_
  refine WL.ex rfl rfl rfl (Ex.lss rfl rfl) ?_
  refine qA ?_
  rw [decide_eq_false (show ¬ (d : Int) < 0 by omega)]
  refine WL.yes rfl rfl rfl rfl ?_
  refine qA ?_
  refine WL.yes rfl rfl rfl rfl ?_
  refine WL.ex rfl rfl rfl (Ex.gtr rfl rfl) ?_
  refine WL.ex rfl rfl rfl (Ex.pickF rfl rfl) ?_
  refine qE ?_
  
  refine WC.no (by first | rfl | exact congrArg some (congrArg Value.bool (decide_eq_false (by omega)))) ?_
  refine WC.skip ?_
  refine WX.next ?_
  refine WC.seq ?_
  refine WC.draw (Keep nof w.drew) [2, 5, 7] (.one 0 0 (.one 1 0 (.one 3 0 (.one 4 0 (.two 2 (.one 5 2 (.one 6 0 (.one 7 2 (.one 8 0 .nil)))) 5 (.one 2 2 (.one 6 0 (.one 7 2 (.one 8 0 .nil))))))))) mixed (by kernel_rfl) (by kernel_rfl) (by kernel_rfl) (HQ.then_ HQ.body) ?_
  obtain ⟨w8, hw8⟩ : ∃ v, v = w.drew := ⟨_, rfl⟩
  have D8 : Keep nof w w8 := by rw [hw8]; exact Keep.drew _ _
  have M8 := M0.step D8
  rw [← hw8]; clear hw8
  refine qC ?_
  refine WP.p rfl rfl rfl rfl (fun _ => Ex.add rfl rfl (i64w _ (by omega) (by omega))) ?_
  refine qC ?_
  refine WP.p rfl rfl rfl rfl (fun _ => Ex.add rfl rfl (i64w _ (by omega) (by omega))) ?_
  refine WP.two ?_ ?_
  · skip
    refine WP.a rfl rfl rfl rfl (Ac.mk M8 el128 rfl rfl (m := d + 1) (by omega) (by omega) (by omega) (by unfold maxLen; omega) (zs := [.slice none 0 0]) (by kernel_rfl)) ?_; rintro v13 w13 ⟨gl, rfl, hg13, K13, M13⟩; refine .inl ⟨rfl, Keep nof w13, ?_⟩
    rw [Nat.mul_one, made1] at M13
    replace M13 := M13.rblk (i := 0) rfl
    try dsimp only [List.set] at M13
    refine WP.a rfl rfl rfl rfl (Ac.mk M13 el39 rfl rfl (m := d + 1) (by omega) (by omega) (by omega) (by unfold maxLen; omega) (zs := bytesV (List.replicate 32 0)) (by kernel_rfl)) ?_; rintro v14 w14 ⟨ge, rfl, hg14, K14, M14⟩; refine .inl ⟨rfl, Keep nof w14, ?_⟩
    rw [made32] at M14
    replace M14 := M14.rblk (i := 0) rfl
    try dsimp only [List.set] at M14
    refine WP.p rfl rfl rfl rfl (fun _ => Ex.bldS bd130 (parts := [(0, .tmp 13), (1, .tmp 16)]) [[(.slice (some ⟨gl, 0, none⟩) (d + 1) (d + 1))], [.slice (some ⟨ge, 0, none⟩) (d + 1) (d + 1)]] (l := tC gl ge d) rfl rfl rfl ⟨0, 1, rfl, rfl, rfl, by simp, 1, 1, rfl, rfl, rfl, by simp [splice], rfl⟩) ?_
    refine WP.a rfl rfl rfl rfl (Ac.box M14 (l := tC gl ge d) rfl rfl) ?_; rintro v16 w16 ⟨g, rfl, hg16, K16, M16⟩; refine .inl ⟨rfl, Keep nof w16, ?_⟩
    refine WP.p rfl rfl rfl rfl (fun _ => Ex.asg rfl) ?_
    refine WP.nil ?_
    refine WX.next ?_
    refine WC.seq ?_
    refine qD ?_
    refine qA ?_
    refine WL.ex rfl rfl rfl (Ex.nilc rfl) ?_
    refine WL.ex rfl rfl rfl (Ex.fa fl130_1 rfl) ?_
    refine WL.ex rfl rfl rfl (Ex.load ty39 rfl (M16.cell (i := 0) (v := (.slice (some ⟨ge, 0, none⟩) (d + 1) (d + 1))) rfl rfl)) ?_
    refine WL.ex rfl rfl rfl (Ex.len Tryd.underlying39 rfl) ?_
    refine qA ?_
    refine qE ?_
    refine WC.block ?_
    refine WC.loop (σ := Nat) (fun i => [(3, .pointer (some ⟨g, 0, none⟩)), (23, .int .i64 ((d + 1 : Nat) : Int)), (24, .int .i64 (i : Int))]) (fun i wr => i ≤ d + 1 ∧ Mem w wr nof [blk g (tC gl ge d) 130, blk gl (nilS (d + 1)) 39, blk ge (fl (fillTo (d + 1) i (emp dNode e0) (List.replicate 32 0))) 31]) (fun i => d + 1 - i) (0) ?_ (.cons rfl (.cons rfl (.cons rfl (.nil)))) ?_
    · refine ⟨by omega, ?_⟩
      rw [fillTo_zero]
      exact (Mem.pick M16 [0, 2, 1] (by decide) rfl)
    rintro i w24 ⟨hi, M24⟩
    refine qD ?_
    refine WL.ex rfl rfl rfl (Ex.lss rfl rfl) ?_
    refine qE ?_
    refine WC.seq ?_
    refine WC.cond_dec rfl (fun hc25 => ?_) (fun hc25 => ?_)
    · skip
      refine WC.skip ?_
      refine WX.next ?_
      refine WC.seq ?_
      refine WC.block ?_
      refine qD ?_
      refine qA ?_
      refine qB ?_
      refine qE ?_
      refine WC.seq ?_
      refine qD ?_
      refine qA ?_
      refine WL.ex rfl rfl rfl (Ex.eqI rfl rfl) ?_
      refine qE ?_
      refine WC.cond_dec rfl (fun h28 => ?_) (fun h28 => ?_)
      · have hi0 : i = 0 := by omega
        refine WC.seq ?_
        refine WC.draw (Keep nof w24.drew) [7] (.one 0 0 (.one 1 0 (.one 2 0 (.one 4 0 (.one 3 1 (.one 5 2 (.one 6 0 (.one 7 2 .nil)))))))) mixed (by kernel_rfl) (by kernel_rfl) (by kernel_rfl) (HQ.then_ (HQ.then_ (HQ.block (HQ.then_ (HQ.then_ (HQ.block (HQ.then_ HQ.body))))))) ?_
        obtain ⟨w30, hw30⟩ : ∃ v, v = w24.drew := ⟨_, rfl⟩
        have D30 : Keep nof w24 w30 := by rw [hw30]; exact Keep.drew _ _
        have M30 := M24.step D30
        rw [← hw30]; clear hw30
        refine qC ?_
        refine WP.p rfl rfl rfl rfl (fun _ => Ex.nilc rfl) ?_
        refine WP.p rfl rfl rfl rfl (fun _ => Ex.fa fl130_1 rfl) ?_
        refine qC ?_
        refine WP.q (Keep.refl _ _) rfl rfl rfl rfl (fun w' hS => Ex.load ty39 rfl (hS.cell (M30.cell (i := 0) (v := (.slice (some ⟨ge, 0, none⟩) (d + 1) (d + 1))) rfl rfl) (fun f => f))) ?_
        refine WP.as rfl rfl rfl rfl (Ac.call rfl Tryd.func78 nm78 rfl (empty_ok w30 0 (by decide) (hT.keep M30.keep))) ?_; rintro v36 w36 ⟨rfl, K36⟩
        refine ⟨Keep nof w36, fun u h => K36.trans h, Keep.refl _ _, ?_⟩
        rw [e0_empty, show bytesV e0 = bytesV (emp dNode e0 i) by rw [hi0]; rfl]
        have M36 := M30.step K36
        refine WP.p rfl rfl rfl rfl (fun _ => Ex.ia Tryd.underlying39 sz31 rfl rfl ⟨by omega, by omega⟩) ?_
        refine WP.a0 rfl rfl rfl (Ac.stA M36 ty31 rfl rfl (vs := bytesV (emp dNode e0 i)) rfl (h32_len (emp32 i)) (bytesV_one _) (i := 2) rfl (by rw [h32_len (emp32 i), fl_len (fillE_len _ _)]; simp; omega)) ?_; rintro v38 w38 ⟨K38, M38⟩; refine .inl ⟨rfl, Keep nof w38, ?_⟩
        try dsimp only [List.set] at M38
        rw [fl, flat_set (fun a ha => h32_len (fillE_len (d + 1) i a ha)) (h32_len (emp32 i)) (i := i) (by simp; omega) (by simp)] at M38
        rw [show (fillTo (d + 1) i (emp dNode e0) (List.replicate 32 0)).set i (emp dNode e0 i) = fillTo (d + 1) (i + 1) (emp dNode e0) (List.replicate 32 0) from fillTo_set (d + 1) i (emp dNode e0) _] at M38
        refine WP.nil ?_
        refine WX.next ?_
        refine WC.exit ?_
        refine WX.exit_then (WX.exit_block (WX.next (?_)))
        refine WC.region ?_
        refine WL.ex rfl rfl rfl (Ex.add rfl rfl (i64w _ (by omega) (by omega))) ?_
        refine qA ?_
        refine WL.nil ?_
        refine WX.again (i + 1) ?_ ?_ (.cons rfl (.cons rfl (.cons rfl (.nil))))
        · (try dsimp only); omega
        · exact ⟨by omega, M38⟩
      · have hi0 : i ≠ 0 := fun h => h28 (by omega)
        have hp32 := emp32 (i - 1)
        refine WC.skip ?_
        refine WX.next ?_
        refine WC.draw (Keep nof w24.drew) [23] (.one 0 0 (.one 1 0 (.one 2 0 (.one 4 0 (.one 5 0 (.one 6 0 (.one 7 0 (.one 9 0 (.one 10 0 (.one 13 0 (.one 14 0 (.one 15 0 (.one 17 0 (.one 18 0 (.one 3 1 (.one 8 1 (.one 11 0 (.one 12 1 (.one 16 1 (.one 19 0 (.one 20 1 (.one 21 2 (.one 22 0 (.one 23 2 .nil)))))))))))))))))))))))) mixed (by kernel_rfl) (by kernel_rfl) (by kernel_rfl) (HQ.block (HQ.then_ (HQ.then_ (HQ.block (HQ.then_ HQ.body))))) ?_
        obtain ⟨w41, hw41⟩ : ∃ v, v = w24.drew := ⟨_, rfl⟩
        have D41 : Keep nof w24 w41 := by rw [hw41]; exact Keep.drew _ _
        have M41 := M24.step D41
        rw [← hw41]; clear hw41
        refine qC ?_
        refine WP.p rfl rfl rfl rfl (fun _ => Ex.nilc rfl) ?_
        refine WP.p rfl rfl rfl rfl (fun _ => Ex.fa fl130_1 rfl) ?_
        refine qC ?_
        refine qC ?_
        refine WP.p rfl rfl rfl rfl (fun _ => Ex.nilc rfl) ?_
        refine WP.p rfl rfl rfl rfl (fun _ => Ex.fa fl130_1 rfl) ?_
        refine qC ?_
        refine WP.p rfl rfl rfl rfl (fun _ => Ex.sub rfl rfl (c := ((i - 1 : Nat) : Int)) (by rw [i64w _ (by omega) (by omega)]; omega)) ?_
        refine qC ?_
        refine WP.p rfl rfl rfl rfl (fun _ => Ex.nilc rfl) ?_
        refine WP.p rfl rfl rfl rfl (fun _ => Ex.fa fl130_1 rfl) ?_
        refine qC ?_
        refine WP.p rfl rfl rfl rfl (fun _ => Ex.sub rfl rfl (c := ((i - 1 : Nat) : Int)) (by rw [i64w _ (by omega) (by omega)]; omega)) ?_
        refine WP.q (Keep.refl _ _) rfl rfl rfl rfl (fun w' hS => Ex.load ty39 rfl (hS.cell (M41.cell (i := 0) (v := (.slice (some ⟨ge, 0, none⟩) (d + 1) (d + 1))) rfl rfl) (fun f => f))) ?_
        refine WP.q (Keep.refl _ _) rfl rfl rfl rfl (fun w' hS => Ex.load ty39 rfl (hS.cell (M41.cell (i := 0) (v := (.slice (some ⟨ge, 0, none⟩) (d + 1) (d + 1))) rfl rfl) (fun f => f))) ?_
        refine WP.p rfl rfl rfl rfl (fun _ => Ex.ia Tryd.underlying39 sz31 rfl rfl ⟨by omega, by omega⟩) ?_
        refine WP.q (Keep.refl _ _) rfl rfl rfl rfl (fun w' hS => Ex.loadA ty31 rfl (l := bytesV (emp dNode e0 (i - 1))) (h32_len hp32) ((M41.rdt (i := 2) rfl (flat_at (fun a ha => h32_len (fillE_len _ _ a ha)) (fillE_get (j := i - 1) (by omega) (by omega)) (by simp))).keep0 hS)) ?_
        refine WP.q (Keep.refl _ _) rfl rfl rfl rfl (fun w' hS => Ex.load ty39 rfl (hS.cell (M41.cell (i := 0) (v := (.slice (some ⟨ge, 0, none⟩) (d + 1) (d + 1))) rfl rfl) (fun f => f))) ?_
        refine WP.p rfl rfl rfl rfl (fun _ => Ex.ia Tryd.underlying39 sz31 rfl rfl ⟨by omega, by omega⟩) ?_
        refine WP.q (Keep.refl _ _) rfl rfl rfl rfl (fun w' hS => Ex.loadA ty31 rfl (l := bytesV (emp dNode e0 (i - 1))) (h32_len hp32) ((M41.rdt (i := 2) rfl (flat_at (fun a ha => h32_len (fillE_len _ _ a ha)) (fillE_get (j := i - 1) (by omega) (by omega)) (by simp))).keep0 hS)) ?_
        refine WP.as rfl rfl rfl rfl (Ac.call rfl Tryd.func74 nm74 rfl (node_ok w41 _ _ hp32 hp32 (hT.keep M41.keep))) ?_; rintro v63 w63 ⟨rfl, K63⟩
        refine ⟨Keep nof w63, fun u h => K63.trans h, Keep.refl _ _, ?_⟩
        rw [show dNode (emp dNode e0 (i - 1)) (emp dNode e0 (i - 1)) = emp dNode e0 i by obtain ⟨m, rfl⟩ : ∃ m, i = m + 1 := ⟨i - 1, by omega⟩; rfl]
        have M63 := M41.step K63
        refine WP.p rfl rfl rfl rfl (fun _ => Ex.ia Tryd.underlying39 sz31 rfl rfl ⟨by omega, by omega⟩) ?_
        refine WP.a0 rfl rfl rfl (Ac.stA M63 ty31 rfl rfl (vs := bytesV (emp dNode e0 i)) rfl (h32_len (emp32 i)) (bytesV_one _) (i := 2) rfl (by rw [h32_len (emp32 i), fl_len (fillE_len _ _)]; simp; omega)) ?_; rintro v65 w65 ⟨K65, M65⟩; refine .inl ⟨rfl, Keep nof w65, ?_⟩
        try dsimp only [List.set] at M65
        rw [fl, flat_set (fun a ha => h32_len (fillE_len (d + 1) i a ha)) (h32_len (emp32 i)) (i := i) (by simp; omega) (by simp)] at M65
        rw [show (fillTo (d + 1) i (emp dNode e0) (List.replicate 32 0)).set i (emp dNode e0 i) = fillTo (d + 1) (i + 1) (emp dNode e0) (List.replicate 32 0) from fillTo_set (d + 1) i (emp dNode e0) _] at M65
        refine WP.nil ?_
        refine WX.normal_block (WX.next (?_))
        refine WC.region ?_
        refine WL.ex rfl rfl rfl (Ex.add rfl rfl (i64w _ (by omega) (by omega))) ?_
        refine qA ?_
        refine WL.nil ?_
        refine WX.again (i + 1) ?_ ?_ (.cons rfl (.cons rfl (.cons rfl (.nil))))
        · (try dsimp only); omega
        · exact ⟨by omega, M65⟩
    · obtain rfl : i = d + 1 := by omega
      rw [fillTo_full (d + 1) (d + 1) (Nat.le_refl _)] at M24
      refine WC.exit ?_
      refine WX.exit_then (WX.exit_then (WX.exit_block (WX.next (?_))))
      refine qD ?_
      refine qA ?_
      refine qB ?_
      refine qE ?_
      refine WC.ret ?_
      refine WX.ret1 rfl rfl ?_
      have Mv := M24.free (r := levR (nilS (d + 1)) (lvOf dNode e0 d []) 31) (by rw [lvOf_nil]; exact lev_none _ _ _) (levn_fp _ _ _)
      have Ma : Mem w w24 nof [blk g (tC gl ge d) 130, blk gl (nilS (d + 1)) 39, levR (nilS (d + 1)) (lvOf dNode e0 d []) 31, blk ge (fl (emps dNode e0 (d + 1))) 31] := Mv.pick [1, 2, 0, 3] (by decide) rfl
      have Mb := Ma.closeS.closeS
      have Mc : Mem w w24 nof [blk ge (fl (emps dNode e0 (d + 1))) 31, treeR g gl ge d (nilS (d + 1)) (lvOf dNode e0 d [])] := Mb.pick [1, 0] (by decide) rfl
      exact ⟨g, gl, ge, rfl, Mc.closeS.toNew⟩
  · skip
    refine WP.a rfl rfl rfl rfl (Ac.mk M8 el39 rfl rfl (m := d + 1) (by omega) (by omega) (by omega) (by unfold maxLen; omega) (zs := bytesV (List.replicate 32 0)) (by kernel_rfl)) ?_; rintro v70 w70 ⟨ge, rfl, hg70, K70, M70⟩; refine .inl ⟨rfl, Keep nof w70, ?_⟩
    rw [made32] at M70
    replace M70 := M70.rblk (i := 0) rfl
    try dsimp only [List.set] at M70
    refine WP.a rfl rfl rfl rfl (Ac.mk M70 el128 rfl rfl (m := d + 1) (by omega) (by omega) (by omega) (by unfold maxLen; omega) (zs := [.slice none 0 0]) (by kernel_rfl)) ?_; rintro v71 w71 ⟨gl, rfl, hg71, K71, M71⟩; refine .inl ⟨rfl, Keep nof w71, ?_⟩
    rw [Nat.mul_one, made1] at M71
    replace M71 := M71.rblk (i := 0) rfl
    try dsimp only [List.set] at M71
    refine WP.p rfl rfl rfl rfl (fun _ => Ex.bldS bd130 (parts := [(0, .tmp 13), (1, .tmp 16)]) [[(.slice (some ⟨gl, 0, none⟩) (d + 1) (d + 1))], [.slice (some ⟨ge, 0, none⟩) (d + 1) (d + 1)]] (l := tC gl ge d) rfl rfl rfl ⟨0, 1, rfl, rfl, rfl, by simp, 1, 1, rfl, rfl, rfl, by simp [splice], rfl⟩) ?_
    refine WP.a rfl rfl rfl rfl (Ac.box M71 (l := tC gl ge d) rfl rfl) ?_; rintro v73 w73 ⟨g, rfl, hg73, K73, M73⟩; refine .inl ⟨rfl, Keep nof w73, ?_⟩
    refine WP.p rfl rfl rfl rfl (fun _ => Ex.asg rfl) ?_
    refine WP.nil ?_
    refine WX.next ?_
    refine WC.seq ?_
    refine qD ?_
    refine qA ?_
    refine WL.ex rfl rfl rfl (Ex.nilc rfl) ?_
    refine WL.ex rfl rfl rfl (Ex.fa fl130_1 rfl) ?_
    refine WL.ex rfl rfl rfl (Ex.load ty39 rfl (M73.cell (i := 0) (v := (.slice (some ⟨ge, 0, none⟩) (d + 1) (d + 1))) rfl rfl)) ?_
    refine WL.ex rfl rfl rfl (Ex.len Tryd.underlying39 rfl) ?_
    refine qA ?_
    refine qE ?_
    refine WC.block ?_
    refine WC.loop (σ := Nat) (fun i => [(3, .pointer (some ⟨g, 0, none⟩)), (23, .int .i64 ((d + 1 : Nat) : Int)), (24, .int .i64 (i : Int))]) (fun i wr => i ≤ d + 1 ∧ Mem w wr nof [blk g (tC gl ge d) 130, blk gl (nilS (d + 1)) 39, blk ge (fl (fillTo (d + 1) i (emp dNode e0) (List.replicate 32 0))) 31]) (fun i => d + 1 - i) (0) ?_ (.cons rfl (.cons rfl (.cons rfl (.nil)))) ?_
    · refine ⟨by omega, ?_⟩
      rw [fillTo_zero]
      exact (Mem.pick M73 [0, 1, 2] (by decide) rfl)
    rintro i w81 ⟨hi, M81⟩
    refine qD ?_
    refine WL.ex rfl rfl rfl (Ex.lss rfl rfl) ?_
    refine qE ?_
    refine WC.seq ?_
    refine WC.cond_dec rfl (fun hc25 => ?_) (fun hc25 => ?_)
    · skip
      refine WC.skip ?_
      refine WX.next ?_
      refine WC.seq ?_
      refine WC.block ?_
      refine qD ?_
      refine qA ?_
      refine qB ?_
      refine qE ?_
      refine WC.seq ?_
      refine qD ?_
      refine qA ?_
      refine WL.ex rfl rfl rfl (Ex.eqI rfl rfl) ?_
      refine qE ?_
      refine WC.cond_dec rfl (fun h28 => ?_) (fun h28 => ?_)
      · have hi0 : i = 0 := by omega
        refine WC.seq ?_
        refine WC.draw (Keep nof w81.drew) [7] (.one 0 0 (.one 1 0 (.one 2 0 (.one 4 0 (.one 3 1 (.one 5 2 (.one 6 0 (.one 7 2 .nil)))))))) mixed (by kernel_rfl) (by kernel_rfl) (by kernel_rfl) (HQ.then_ (HQ.then_ (HQ.block (HQ.then_ (HQ.then_ (HQ.block (HQ.then_ HQ.body))))))) ?_
        obtain ⟨w87, hw87⟩ : ∃ v, v = w81.drew := ⟨_, rfl⟩
        have D87 : Keep nof w81 w87 := by rw [hw87]; exact Keep.drew _ _
        have M87 := M81.step D87
        rw [← hw87]; clear hw87
        refine qC ?_
        refine WP.p rfl rfl rfl rfl (fun _ => Ex.nilc rfl) ?_
        refine WP.p rfl rfl rfl rfl (fun _ => Ex.fa fl130_1 rfl) ?_
        refine qC ?_
        refine WP.q (Keep.refl _ _) rfl rfl rfl rfl (fun w' hS => Ex.load ty39 rfl (hS.cell (M87.cell (i := 0) (v := (.slice (some ⟨ge, 0, none⟩) (d + 1) (d + 1))) rfl rfl) (fun f => f))) ?_
        refine WP.as rfl rfl rfl rfl (Ac.call rfl Tryd.func78 nm78 rfl (empty_ok w87 0 (by decide) (hT.keep M87.keep))) ?_; rintro v93 w93 ⟨rfl, K93⟩
        refine ⟨Keep nof w93, fun u h => K93.trans h, Keep.refl _ _, ?_⟩
        rw [e0_empty, show bytesV e0 = bytesV (emp dNode e0 i) by rw [hi0]; rfl]
        have M93 := M87.step K93
        refine WP.p rfl rfl rfl rfl (fun _ => Ex.ia Tryd.underlying39 sz31 rfl rfl ⟨by omega, by omega⟩) ?_
        refine WP.a0 rfl rfl rfl (Ac.stA M93 ty31 rfl rfl (vs := bytesV (emp dNode e0 i)) rfl (h32_len (emp32 i)) (bytesV_one _) (i := 2) rfl (by rw [h32_len (emp32 i), fl_len (fillE_len _ _)]; simp; omega)) ?_; rintro v95 w95 ⟨K95, M95⟩; refine .inl ⟨rfl, Keep nof w95, ?_⟩
        try dsimp only [List.set] at M95
        rw [fl, flat_set (fun a ha => h32_len (fillE_len (d + 1) i a ha)) (h32_len (emp32 i)) (i := i) (by simp; omega) (by simp)] at M95
        rw [show (fillTo (d + 1) i (emp dNode e0) (List.replicate 32 0)).set i (emp dNode e0 i) = fillTo (d + 1) (i + 1) (emp dNode e0) (List.replicate 32 0) from fillTo_set (d + 1) i (emp dNode e0) _] at M95
        refine WP.nil ?_
        refine WX.next ?_
        refine WC.exit ?_
        refine WX.exit_then (WX.exit_block (WX.next (?_)))
        refine WC.region ?_
        refine WL.ex rfl rfl rfl (Ex.add rfl rfl (i64w _ (by omega) (by omega))) ?_
        refine qA ?_
        refine WL.nil ?_
        refine WX.again (i + 1) ?_ ?_ (.cons rfl (.cons rfl (.cons rfl (.nil))))
        · (try dsimp only); omega
        · exact ⟨by omega, M95⟩
      · have hi0 : i ≠ 0 := fun h => h28 (by omega)
        have hp32 := emp32 (i - 1)
        refine WC.skip ?_
        refine WX.next ?_
        refine WC.draw (Keep nof w81.drew) [23] (.one 0 0 (.one 1 0 (.one 2 0 (.one 4 0 (.one 5 0 (.one 6 0 (.one 7 0 (.one 9 0 (.one 10 0 (.one 13 0 (.one 14 0 (.one 15 0 (.one 17 0 (.one 18 0 (.one 3 1 (.one 8 1 (.one 11 0 (.one 12 1 (.one 16 1 (.one 19 0 (.one 20 1 (.one 21 2 (.one 22 0 (.one 23 2 .nil)))))))))))))))))))))))) mixed (by kernel_rfl) (by kernel_rfl) (by kernel_rfl) (HQ.block (HQ.then_ (HQ.then_ (HQ.block (HQ.then_ HQ.body))))) ?_
        obtain ⟨w98, hw98⟩ : ∃ v, v = w81.drew := ⟨_, rfl⟩
        have D98 : Keep nof w81 w98 := by rw [hw98]; exact Keep.drew _ _
        have M98 := M81.step D98
        rw [← hw98]; clear hw98
        refine qC ?_
        refine WP.p rfl rfl rfl rfl (fun _ => Ex.nilc rfl) ?_
        refine WP.p rfl rfl rfl rfl (fun _ => Ex.fa fl130_1 rfl) ?_
        refine qC ?_
        refine qC ?_
        refine WP.p rfl rfl rfl rfl (fun _ => Ex.nilc rfl) ?_
        refine WP.p rfl rfl rfl rfl (fun _ => Ex.fa fl130_1 rfl) ?_
        refine qC ?_
        refine WP.p rfl rfl rfl rfl (fun _ => Ex.sub rfl rfl (c := ((i - 1 : Nat) : Int)) (by rw [i64w _ (by omega) (by omega)]; omega)) ?_
        refine qC ?_
        refine WP.p rfl rfl rfl rfl (fun _ => Ex.nilc rfl) ?_
        refine WP.p rfl rfl rfl rfl (fun _ => Ex.fa fl130_1 rfl) ?_
        refine qC ?_
        refine WP.p rfl rfl rfl rfl (fun _ => Ex.sub rfl rfl (c := ((i - 1 : Nat) : Int)) (by rw [i64w _ (by omega) (by omega)]; omega)) ?_
        refine WP.q (Keep.refl _ _) rfl rfl rfl rfl (fun w' hS => Ex.load ty39 rfl (hS.cell (M98.cell (i := 0) (v := (.slice (some ⟨ge, 0, none⟩) (d + 1) (d + 1))) rfl rfl) (fun f => f))) ?_
        refine WP.q (Keep.refl _ _) rfl rfl rfl rfl (fun w' hS => Ex.load ty39 rfl (hS.cell (M98.cell (i := 0) (v := (.slice (some ⟨ge, 0, none⟩) (d + 1) (d + 1))) rfl rfl) (fun f => f))) ?_
        refine WP.p rfl rfl rfl rfl (fun _ => Ex.ia Tryd.underlying39 sz31 rfl rfl ⟨by omega, by omega⟩) ?_
        refine WP.q (Keep.refl _ _) rfl rfl rfl rfl (fun w' hS => Ex.loadA ty31 rfl (l := bytesV (emp dNode e0 (i - 1))) (h32_len hp32) ((M98.rdt (i := 2) rfl (flat_at (fun a ha => h32_len (fillE_len _ _ a ha)) (fillE_get (j := i - 1) (by omega) (by omega)) (by simp))).keep0 hS)) ?_
        refine WP.q (Keep.refl _ _) rfl rfl rfl rfl (fun w' hS => Ex.load ty39 rfl (hS.cell (M98.cell (i := 0) (v := (.slice (some ⟨ge, 0, none⟩) (d + 1) (d + 1))) rfl rfl) (fun f => f))) ?_
        refine WP.p rfl rfl rfl rfl (fun _ => Ex.ia Tryd.underlying39 sz31 rfl rfl ⟨by omega, by omega⟩) ?_
        refine WP.q (Keep.refl _ _) rfl rfl rfl rfl (fun w' hS => Ex.loadA ty31 rfl (l := bytesV (emp dNode e0 (i - 1))) (h32_len hp32) ((M98.rdt (i := 2) rfl (flat_at (fun a ha => h32_len (fillE_len _ _ a ha)) (fillE_get (j := i - 1) (by omega) (by omega)) (by simp))).keep0 hS)) ?_
        refine WP.as rfl rfl rfl rfl (Ac.call rfl Tryd.func74 nm74 rfl (node_ok w98 _ _ hp32 hp32 (hT.keep M98.keep))) ?_; rintro v120 w120 ⟨rfl, K120⟩
        refine ⟨Keep nof w120, fun u h => K120.trans h, Keep.refl _ _, ?_⟩
        rw [show dNode (emp dNode e0 (i - 1)) (emp dNode e0 (i - 1)) = emp dNode e0 i by obtain ⟨m, rfl⟩ : ∃ m, i = m + 1 := ⟨i - 1, by omega⟩; rfl]
        have M120 := M98.step K120
        refine WP.p rfl rfl rfl rfl (fun _ => Ex.ia Tryd.underlying39 sz31 rfl rfl ⟨by omega, by omega⟩) ?_
        refine WP.a0 rfl rfl rfl (Ac.stA M120 ty31 rfl rfl (vs := bytesV (emp dNode e0 i)) rfl (h32_len (emp32 i)) (bytesV_one _) (i := 2) rfl (by rw [h32_len (emp32 i), fl_len (fillE_len _ _)]; simp; omega)) ?_; rintro v122 w122 ⟨K122, M122⟩; refine .inl ⟨rfl, Keep nof w122, ?_⟩
        try dsimp only [List.set] at M122
        rw [fl, flat_set (fun a ha => h32_len (fillE_len (d + 1) i a ha)) (h32_len (emp32 i)) (i := i) (by simp; omega) (by simp)] at M122
        rw [show (fillTo (d + 1) i (emp dNode e0) (List.replicate 32 0)).set i (emp dNode e0 i) = fillTo (d + 1) (i + 1) (emp dNode e0) (List.replicate 32 0) from fillTo_set (d + 1) i (emp dNode e0) _] at M122
        refine WP.nil ?_
        refine WX.normal_block (WX.next (?_))
        refine WC.region ?_
        refine WL.ex rfl rfl rfl (Ex.add rfl rfl (i64w _ (by omega) (by omega))) ?_
        refine qA ?_
        refine WL.nil ?_
        refine WX.again (i + 1) ?_ ?_ (.cons rfl (.cons rfl (.cons rfl (.nil))))
        · (try dsimp only); omega
        · exact ⟨by omega, M122⟩
    · obtain rfl : i = d + 1 := by omega
      rw [fillTo_full (d + 1) (d + 1) (Nat.le_refl _)] at M81
      refine WC.exit ?_
      refine WX.exit_then (WX.exit_then (WX.exit_block (WX.next (?_))))
      refine qD ?_
      refine qA ?_
      refine qB ?_
      refine qE ?_
      refine WC.ret ?_
      refine WX.ret1 rfl rfl ?_
      have Mv := M81.free (r := levR (nilS (d + 1)) (lvOf dNode e0 d []) 31) (by rw [lvOf_nil]; exact lev_none _ _ _) (levn_fp _ _ _)
      have Ma : Mem w w81 nof [blk g (tC gl ge d) 130, blk gl (nilS (d + 1)) 39, levR (nilS (d + 1)) (lvOf dNode e0 d []) 31, blk ge (fl (emps dNode e0 (d + 1))) 31] := Mv.pick [1, 2, 0, 3] (by decide) rfl
      have Mb := Ma.closeS.closeS
      have Mc : Mem w w81 nof [blk ge (fl (emps dNode e0 (d + 1))) 31, treeR g gl ge d (nilS (d + 1)) (lvOf dNode e0 d [])] := Mb.pick [1, 0] (by decide) rfl
      exact ⟨g, gl, ge, rfl, Mc.closeS.toNew⟩

end Go.Proofs.YtchmjpdkonfifaaDoor

set_option linter.unusedVariables false
set_option linter.unusedSimpArgs false
namespace Go.Proofs.YtchmjpdkonfifaaDoor
open Go.Sx Go.RowKit
attribute [local irreducible] Ac Ex WL WC WX WP Gives sha

/-- The document's node, of a level. -/
def RN (k : Nat) : Prop := ∀ (w : World) (A : Option Addr) (c : Nat) (ls : Hs) (p : Nat), Rd w A (fl ls) → (∀ a ∈ ls, H32 a) → ls.length ≤ 4294967296 → k ≤ 32 → (p + 1) * 2 ^ k ≤ 4294967296 → TabR w →
  Gives Tryd.prog 44 #[.agg (empC (empTo 33)).toArray, .slice A ls.length c, .int .i64 (k : Int), .int .u64 (p : Int)] w fun u w1 => u = .agg (bytesV (nd dNode e0 ls k p)).toArray ∧ Keep nof w w1
theorem u64dbl {x : Nat} (h : x ≤ 4294967296) : IntKind.u64.wrap (2 * (x : Int)) = ((2 * x : Nat) : Int) := by
  rw [show (2 * (x : Int)) = ((2 * x : Nat) : Int) by omega]
  exact u64w_lt _ (by omega)
def places (d : Nat) (z : Int) : Nat := if 0 ≤ z ∧ z ≤ (d : Int) then 2 ^ (d - z.toNat) else 0

/- sponsion/sponsionref10.node -/
theorem rnode_step (k : Nat) (ih : ∀ j, j < k → RN j) (w : World) (A : Option Addr) (c : Nat) (ls : Hs) (p : Nat) (hr : Rd w A (fl ls)) (hls32 : ∀ a ∈ ls, H32 a) (hlen : ls.length ≤ 4294967296) (hk : k ≤ 32) (hp : (p + 1) * 2 ^ k ≤ 4294967296) (hR : TabR w) :
    Gives Tryd.prog 44 #[.agg (empC (empTo 33)).toArray, .slice A ls.length c, .int .i64 (k : Int), .int .u64 (p : Int)] w fun u w1 => u = .agg (bytesV (nd dNode e0 ls k p)).toArray ∧ Keep nof w w1 := by
  have M0 := Mem.start w nof
  have he33 := empTo_ok 33
  have hek := emptyH_len k
  have hpk : p * 2 ^ k ≤ 4294967296 := Nat.le_trans (Nat.mul_le_mul_right _ (Nat.le_succ p)) hp
  have hp1 : p ≤ 4294967296 := Nat.le_trans (Nat.le_mul_of_pos_right p (Nat.pow_pos (show 0 < 2 by decide))) hpk
  have hr32 := nd32 hls32 k p
  refine Gives.enter (n := 47) Tryd.func44 rfl Tryd.ntmps44 rfl (env := [(0, .agg (empC (empTo 33)).toArray), (1, .slice A ls.length c), (2, .int .i64 (k : Int)), (3, .int .u64 (p : Int))]) rfl ?_
  refine qD ?_
  refine WL.ac rfl rfl rfl (Ac.box M0 rfl rfl) ?_; rintro v1 w1 ⟨ges, rfl, hg1, K1, M1⟩
  refine WL.ac rfl rfl rfl (Ac.alloc M1 (l := bytesV (List.replicate 32 0)) (by kernel_rfl)) ?_; rintro v2 w2 ⟨go, rfl, hg2, K2, M2⟩
  refine qE ?_
  refine qD ?_
  refine qA ?_
  refine qB ?_
  refine qE ?_
  refine WC.seq ?_
  refine qD ?_
  refine qA ?_
  refine qA ?_
  refine qE ?_
  refine WC.block ?_
  refine WC.loop (σ := Nat × Nat) (fun s => [(1, .slice A ls.length c), (2, .int .i64 (k : Int)), (3, .int .u64 (p : Int)), (4, .pointer (some ⟨ges, 0, none⟩)), (8, .pointer (some ⟨go, 0, none⟩)), (9, .int .u64 (s.2 : Int)), (11, .int .i64 (k : Int)), (12, .int .i64 (s.1 : Int))]) (fun s wr => s.1 ≤ k ∧ s.2 = p * 2 ^ s.1 ∧ Mem w wr nof [blk go (bytesV (List.replicate 32 0)) 31, blk ges (empC (empTo 33)) 98]) (fun s => k - s.1) (((0, p) : Nat × Nat)) ?_ (.cons rfl (.cons rfl (.cons rfl (.cons rfl (.cons rfl (.cons rfl (.cons rfl (.cons rfl (.nil))))))))) ?_
  · exact ⟨by simp, by simp, M2⟩
  rintro ⟨i, q⟩ w7 ⟨hi, hq, M7⟩
  dsimp only at hi hq M7
  refine WC.sub (env' := [(1, .slice A ls.length c), (2, .int .i64 (k : Int)), (3, .int .u64 (p : Int)), (4, .pointer (some ⟨ges, 0, none⟩)), (8, .pointer (some ⟨go, 0, none⟩)), (9, .int .u64 (q : Int)), (11, .int .i64 (k : Int)), (12, .int .i64 (i : Int))]) (.cons rfl (.cons rfl (.cons rfl (.cons rfl (.cons rfl (.cons rfl (.cons rfl (.cons rfl (.nil))))))))) ?_
  refine qD ?_
  refine WL.ex rfl rfl rfl (Ex.lss rfl rfl) ?_
  refine qE ?_
  refine WC.seq ?_
  refine WC.cond_dec rfl (fun hc13 => ?_) (fun hc13 => ?_)
  · have hpi : p * 2 ^ i ≤ 4294967296 := Nat.le_trans (Nat.mul_le_mul_left _ (Nat.pow_le_pow_right (by decide) hi)) hpk
    have hdb : p * 2 ^ (i + 1) = 2 * (p * 2 ^ i) := by rw [Nat.pow_succ, ← Nat.mul_assoc, Nat.mul_comm]
    rw [← hq] at hpi
    refine WC.skip ?_
    refine WX.next ?_
    refine WC.seq ?_
    refine WC.block ?_
    refine WC.region ?_
    refine qA ?_
    refine WL.ex rfl rfl rfl (Ex.mul rfl rfl (c := ((2 * q : Nat) : Int)) (u64dbl hpi)) ?_
    refine qB ?_
    refine WL.nil ?_
    refine WX.normal_block (WX.next (?_))
    refine WC.region ?_
    refine WL.ex rfl rfl rfl (Ex.add rfl rfl (i64w _ (by omega) (by omega))) ?_
    refine qA ?_
    refine WL.nil ?_
    refine WX.again (((i + 1, 2 * q) : Nat × Nat)) ?_ ?_ (.cons rfl (.cons rfl (.cons rfl (.cons rfl (.cons rfl (.cons rfl (.cons rfl (.cons rfl (.nil)))))))))
    · dsimp only; omega
    · exact ⟨by dsimp only; omega, by dsimp only; rw [hdb, hq], M7⟩
  · obtain rfl : k = i := by omega
    subst hq
    refine WC.exit ?_
    refine WX.exit_then (WX.exit_then (WX.exit_block (WX.next (?_))))
    refine WC.seq ?_
    refine qD ?_
    refine qA ?_
    refine qA ?_
    refine WL.ex rfl rfl rfl (Ex.len Tryd.underlying39 rfl) ?_
    refine WL.ex rfl rfl rfl (Ex.cvI Tryd.underlying3 Tryd.underlying23 rfl (u64w_lt _ (by omega))) ?_
    refine WL.ex rfl rfl rfl (Ex.geq rfl rfl) ?_
    refine qE ?_
    refine WC.cond_dec rfl (fun h21 => ?_) (fun h21 => ?_)
    · have hnd : nd dNode e0 ls k p = emptyH k := by rw [nd_emp k p (by omega), emptyH_emp]
      refine qD ?_
      refine qA ?_
      refine WL.ex rfl rfl rfl (Ex.iaA Tryd.underlying98 sz31 rfl rfl ⟨by omega, by omega⟩) ?_
      refine WL.ex rfl rfl rfl (Ex.loadA ty31 rfl (l := bytesV (emptyH k)) (h32_len (emptyH_len k)) (M7.rdt (i := 1) rfl (flat_at (fun a ha => h32_len ((empTo_ok 33).mem a ha)) (empTo_get (k := 33) (i := k) (by omega) (by omega)) (by simp)))) ?_
      refine WL.ac0 rfl rfl (Ac.stA M7 ty31 rfl rfl rfl (h32_len (by first | assumption | exact h32_0)) (bytesV_one _) (i := 0) rfl (by first | (rw [h32_len (by first | assumption | exact h32_0), h32_len (by first | assumption | exact h32_0)]; decide) | (rw [h32_len (by first | assumption | exact h32_0)]; decide) | rw [h32_len (by first | assumption | exact h32_0)])) ?_; rintro v22 w22 ⟨K22, M22⟩
      try dsimp only [List.set] at M22
      rw [splice_all _ _ (by first | rw [h32_len (by first | assumption | exact h32_0), h32_len (by first | assumption | exact h32_0)] | rw [h32_len (by first | assumption | exact h32_0)])] at M22
      refine qE ?_
      refine WC.ret ?_
      refine WX.ret_then (?_)
      refine WX.retc rfl rfl (run_loadVarA ty31 (h32_len (by first | assumption | exact h32_0)) (M22.rdw (i := 0) rfl)) ?_
      rw [hnd]
      exact ⟨rfl, M22.keep⟩
    · skip
      refine WC.skip ?_
      refine WX.next ?_
      refine WC.seq ?_
      refine qD ?_
      refine qA ?_
      refine WL.ex rfl rfl rfl (Ex.eqI rfl rfl) ?_
      refine qE ?_
      refine WC.cond_dec rfl (fun h26 => ?_) (fun h26 => ?_)
      · have hk0 : k = 0 := by omega
        subst hk0
        simp only [Nat.pow_zero, Nat.mul_one] at h21
        obtain ⟨a, hai⟩ : ∃ a, ls[p]? = some a := ⟨_, List.getElem?_eq_getElem (by omega)⟩
        have ha32 := hls32 a (List.mem_of_getElem? hai)
        have hnd : nd dNode e0 ls 0 p = a := by simp only [nd, List.getD]; rw [hai]; rfl
        obtain ⟨b1, o1, hA1, _⟩ := hr.plain (by rw [fl_len hls32]; omega)
        subst hA1
        refine qD ?_
        refine qA ?_
        refine qA ?_
        refine WL.ex rfl rfl rfl (Ex.ia Tryd.underlying39 sz31 rfl rfl ⟨by omega, by omega⟩) ?_
        refine WL.ex rfl rfl rfl (Ex.loadA ty31 rfl (l := bytesV a) (by simpa using ha32) (fl_at (hr.keep0 M7.keep) hls32 hai (by simp))) ?_
        refine WL.ac0 rfl rfl (Ac.stA M7 ty31 rfl rfl rfl (h32_len (by first | assumption | exact h32_0)) (bytesV_one _) (i := 0) rfl (by first | (rw [h32_len (by first | assumption | exact h32_0), h32_len (by first | assumption | exact h32_0)]; decide) | (rw [h32_len (by first | assumption | exact h32_0)]; decide) | rw [h32_len (by first | assumption | exact h32_0)])) ?_; rintro v29 w29 ⟨K29, M29⟩
        try dsimp only [List.set] at M29
        rw [splice_all _ _ (by first | rw [h32_len (by first | assumption | exact h32_0), h32_len (by first | assumption | exact h32_0)] | rw [h32_len (by first | assumption | exact h32_0)])] at M29
        refine qE ?_
        refine WC.ret ?_
        refine WX.ret_then (?_)
        refine WX.retc rfl rfl (run_loadVarA ty31 (h32_len (by first | assumption | exact h32_0)) (M29.rdw (i := 0) rfl)) ?_
        rw [hnd]
        exact ⟨rfl, M29.keep⟩
      · obtain ⟨j, hj⟩ : ∃ j, k = j + 1 := ⟨k - 1, by omega⟩
        subst hj
        have hdn : (2 * p + 1 + 1) * 2 ^ j = (p + 1) * 2 ^ (j + 1) := by rw [Nat.pow_succ, Nat.mul_comm (2 ^ j) 2, ← Nat.mul_assoc]; congr 1; omega
        have hdn2 : (2 * p + 1) * 2 ^ j ≤ (2 * p + 1 + 1) * 2 ^ j := Nat.mul_le_mul_right _ (by omega)
        have hx32 := nd32 hls32 j (2 * p)
        have hy32 := nd32 hls32 j (2 * p + 1)
        have hnd : nd dNode e0 ls (j + 1) p = dNode (nd dNode e0 ls j (2 * p)) (nd dNode e0 ls j (2 * p + 1)) := rfl
        have hz32 := dNode_len (nd dNode e0 ls j (2 * p)) (nd dNode e0 ls j (2 * p + 1))
        refine WC.skip ?_
        refine WX.next ?_
        refine WC.seq ?_
        refine WC.draw (Keep nof w7.drew) [16] (.one 1 0 (.one 2 0 (.one 3 0 (.one 4 0 (.one 5 0 (.one 8 0 (.one 9 0 (.one 10 0 (.one 11 0 (.one 12 0 (.one 13 0 (.one 0 1 (.one 7 1 (.one 6 2 (.one 14 2 (.one 15 2 (.one 16 2 .nil))))))))))))))))) mixed (by kernel_rfl) (by kernel_rfl) (by kernel_rfl) (HQ.then_ HQ.body) ?_
        obtain ⟨w30, hw30⟩ : ∃ v, v = w7.drew := ⟨_, rfl⟩
        have D30 : Keep nof w7 w30 := by rw [hw30]; exact Keep.drew _ _
        have M30 := M7.step D30
        rw [← hw30]; clear hw30
        refine qC ?_
        refine qC ?_
        refine WP.p rfl rfl rfl rfl (fun _ => Ex.sub rfl rfl (c := (j : Int)) (by rw [i64w _ (by omega) (by omega)]; omega)) ?_
        refine qC ?_
        refine WP.p rfl rfl rfl rfl (fun _ => Ex.mul rfl rfl (c := ((2 * p : Nat) : Int)) (u64dbl hp1)) ?_
        refine qC ?_
        refine qC ?_
        refine WP.p rfl rfl rfl rfl (fun _ => Ex.sub rfl rfl (c := (j : Int)) (by rw [i64w _ (by omega) (by omega)]; omega)) ?_
        refine qC ?_
        refine WP.p rfl rfl rfl rfl (fun _ => Ex.mul rfl rfl (c := ((2 * p : Nat) : Int)) (u64dbl hp1)) ?_
        refine WP.p rfl rfl rfl rfl (fun _ => Ex.add rfl rfl (c := ((2 * p + 1 : Nat) : Int)) (by rw [show ((2 * p : Nat) : Int) + 1 = ((2 * p + 1 : Nat) : Int) by omega]; exact u64w_lt _ (by omega))) ?_
        refine WP.q (Keep.refl _ _) rfl rfl rfl rfl (fun w' hS => Ex.loadA ty98 rfl (emp_len (by first | assumption | exact emp0_ok)) ((M30.rdw (i := 1) rfl).keep0 hS)) ?_
        refine WP.q (Keep.refl _ _) rfl rfl rfl rfl (fun w' hS => Ex.loadA ty98 rfl (emp_len (by first | assumption | exact emp0_ok)) ((M30.rdw (i := 1) rfl).keep0 hS)) ?_
        refine WP.as rfl rfl rfl rfl (Ac.call rfl Tryd.func44 nm44 rfl (ih j (by omega) w30 A c ls (2 * p) (hr.keep0 M30.keep) hls32 hlen (by omega) (by omega) (hR.keep0 M30.keep))) ?_; rintro v44 w44 ⟨rfl, K44⟩
        refine ⟨Keep nof w44, fun u h => K44.trans h, Keep.refl _ _, ?_⟩
        have M44 := M30.step K44
        refine WP.as rfl rfl rfl rfl (Ac.call rfl Tryd.func44 nm44 rfl (ih j (by omega) w44 A c ls (2 * p + 1) (hr.keep0 M44.keep) hls32 hlen (by omega) (by omega) (hR.keep0 M44.keep))) ?_; rintro v45 w45 ⟨rfl, K45⟩
        refine ⟨Keep nof w45, fun u h => K45.trans h, Keep.refl _ _, ?_⟩
        have M45 := M44.step K45
        refine WP.as rfl rfl rfl rfl (Ac.call rfl Tryd.func76 nm76 rfl (refNode_ok w45 _ _ hx32 hy32 (hR.keep0 M45.keep))) ?_; rintro v46 w46 ⟨rfl, K46⟩
        refine ⟨Keep nof w46, fun u h => K46.trans h, Keep.refl _ _, ?_⟩
        have M46 := M45.step K46
        refine WP.a0 rfl rfl rfl (Ac.stA M46 ty31 rfl rfl rfl (h32_len (by first | assumption | exact h32_0)) (bytesV_one _) (i := 0) rfl (by first | (rw [h32_len (by first | assumption | exact h32_0), h32_len (by first | assumption | exact h32_0)]; decide) | (rw [h32_len (by first | assumption | exact h32_0)]; decide) | rw [h32_len (by first | assumption | exact h32_0)])) ?_; rintro v47 w47 ⟨K47, M47⟩; refine .inl ⟨rfl, Keep nof w47, ?_⟩
        try dsimp only [List.set] at M47
        rw [splice_all _ _ (by first | rw [h32_len (by first | assumption | exact h32_0), h32_len (by first | assumption | exact h32_0)] | rw [h32_len (by first | assumption | exact h32_0)])] at M47
        refine WP.nil ?_
        refine WX.next ?_
        refine WC.ret ?_
        refine WX.retc rfl rfl (run_loadVarA ty31 (h32_len (by first | assumption | exact h32_0)) (M47.rdw (i := 0) rfl)) ?_
        rw [hnd]
        exact ⟨rfl, M47.keep⟩

theorem rnode_ok : ∀ k, RN k := fun k => Nat.strongRecOn k fun k ih w A c ls p h1 h2 h3 h4 h5 h6 => rnode_step k ih w A c ls p h1 h2 h3 h4 h5 h6

/- sponsion/sponsionref10.Node -/
theorem rNode_ok (w : World) (A : Option Addr) (c : Nat) (ls : Hs) (k p : Nat) (hr : Rd w A (fl ls)) (hls32 : ∀ a ∈ ls, H32 a) (hlen : ls.length ≤ 4294967296) (hk : k ≤ 32) (hp : (p + 1) * 2 ^ k ≤ 4294967296) (hR : TabR w) :
    Gives Tryd.prog 15 #[.slice A ls.length c, .int .i64 (k : Int), .int .u64 (p : Int)] w fun u w1 => u = .agg (bytesV (nd dNode e0 ls k p)).toArray ∧ Keep nof w w1 := by
  have M0 := Mem.start w nof
  have hr32 := nd32 hls32 k p
  refine Gives.enter (n := 12) Tryd.func15 rfl Tryd.ntmps15 rfl (env := [(0, .slice A ls.length c), (1, .int .i64 (k : Int)), (2, .int .u64 (p : Int))]) rfl ?_
  refine qD ?_
  refine WL.ac rfl rfl rfl (Ac.alloc M0 (l := bytesV (List.replicate 32 0)) (by kernel_rfl)) ?_; rintro v1 w1 ⟨go, rfl, hg1, K1, M1⟩
  refine qE ?_
  refine qD ?_
  refine WL.ac rfl rfl rfl (Ac.call rfl Tryd.func45 nm45 rfl (empties_ok w1 (hR.keep0 M1.keep))) ?_; rintro v2 w2 ⟨rfl, K2⟩
  have M2 := M1.step K2
  refine qA ?_
  refine qA ?_
  refine qA ?_
  refine WL.ac rfl rfl rfl (Ac.call rfl Tryd.func44 nm44 rfl (rnode_ok k w2 A c ls p (hr.keep0 M2.keep) hls32 hlen hk hp (hR.keep0 M2.keep))) ?_; rintro v6 w6 ⟨rfl, K6⟩
  have M6 := M2.step K6
  refine WL.ac0 rfl rfl (Ac.stA M6 ty31 rfl rfl rfl (h32_len (by first | assumption | exact h32_0)) (bytesV_one _) (i := 0) rfl (by first | (rw [h32_len (by first | assumption | exact h32_0), h32_len (by first | assumption | exact h32_0)]; decide) | (rw [h32_len (by first | assumption | exact h32_0)]; decide) | rw [h32_len (by first | assumption | exact h32_0)])) ?_; rintro v7 w7 ⟨K7, M7⟩
  try dsimp only [List.set] at M7
  rw [splice_all _ _ (by first | rw [h32_len (by first | assumption | exact h32_0), h32_len (by first | assumption | exact h32_0)] | rw [h32_len (by first | assumption | exact h32_0)])] at M7
  refine qE ?_
  refine WC.ret ?_
  refine WX.retc rfl rfl (run_loadVarA ty31 (h32_len (by first | assumption | exact h32_0)) (M7.rdw (i := 0) rfl)) ?_
  exact ⟨rfl, M7.keep⟩

/- sponsion/sponsionref10.Places -/
theorem places_ok (w : World) (d : Nat) (z : Int) (hd : d ≤ 32) (hz : -9223372036854775808 ≤ z ∧ z ≤ 9223372036854775807) :
    Gives Tryd.prog 36 #[.int .i64 (d : Int), .int .i64 z] w fun u w1 => u = .int .u64 (places d z : Int) ∧ Keep nof w w1 := by
  have M0 := Mem.start w nof
  refine Gives.enter (n := 22) Tryd.func36 rfl Tryd.ntmps36 rfl (env := [(0, .int .i64 (d : Int)), (1, .int .i64 z)]) rfl ?_
  refine qD ?_
  refine qB ?_
  refine qE ?_
  refine WC.seq ?_
  refine qD ?_
  refine qA ?_
  refine WL.ex rfl rfl rfl (Ex.lss rfl rfl) ?_
  refine qA ?_
  by_cases h1 : z < 0
  · rw [decide_eq_true h1]
    have hpl : places d z = 0 := if_neg (by omega)
    refine WL.no rfl rfl rfl rfl rfl rfl ?_
    refine WL.no rfl rfl rfl rfl rfl rfl ?_
    refine WL.no rfl rfl rfl rfl rfl rfl ?_
    refine WL.ex rfl rfl rfl (Ex.pickT rfl rfl) ?_
    refine qE ?_
    refine WC.yes rfl ?_
    refine qD ?_
    refine qB ?_
    refine qE ?_
    refine WC.ret ?_
    refine WX.ret_then (?_)
    refine WX.ret1 rfl rfl ?_
    rw [hpl]
    exact ⟨rfl, M0.keep⟩
  · rw [decide_eq_false h1]
    obtain ⟨k, rfl⟩ := Int.eq_ofNat_of_zero_le (show 0 ≤ z by omega)
    refine WL.yes rfl rfl rfl rfl ?_
    refine qA ?_
    refine WL.yes rfl rfl rfl rfl ?_
    refine qA ?_
    refine WL.yes rfl rfl rfl rfl ?_
    refine WL.ex rfl rfl rfl (Ex.gtr rfl rfl) ?_
    refine WL.ex rfl rfl rfl (Ex.pickF rfl rfl) ?_
    refine qE ?_
    refine WC.cond_dec rfl (fun h12 => ?_) (fun h12 => ?_)
    · have hpl : places d (k : Int) = 0 := if_neg (by omega)
      refine qD ?_
      refine qB ?_
      refine qE ?_
      refine WC.ret ?_
      refine WX.ret_then (?_)
      refine WX.ret1 rfl rfl ?_
      rw [hpl]
      exact ⟨rfl, M0.keep⟩
    · have hpl : places d (k : Int) = 2 ^ (d - k) := if_pos (by omega)
      refine WC.skip ?_
      refine WX.next ?_
      refine qD ?_
      refine qB ?_
      refine qE ?_
      refine WC.seq ?_
      refine qD ?_
      refine qA ?_
      refine qA ?_
      refine WL.ex rfl rfl rfl (Ex.sub rfl rfl (c := ((d - k : Nat) : Int)) (by rw [i64w _ (by omega) (by omega)]; omega)) ?_
      refine qA ?_
      refine qE ?_
      refine WC.block ?_
      refine WC.loop (σ := Nat) (fun i => [(5, .int .u64 ((2 ^ i : Nat) : Int)), (15, .int .i64 ((d - k : Nat) : Int)), (16, .int .i64 (i : Int))]) (fun i wr => i ≤ d - k ∧ Mem w wr nof []) (fun i => d - k - i) (0) ?_ (.cons rfl (.cons rfl (.cons rfl (.nil)))) ?_
      · exact ⟨by omega, M0⟩
      rintro i w17 ⟨hi, M17⟩
      refine qD ?_
      refine WL.ex rfl rfl rfl (Ex.lss rfl rfl) ?_
      refine qE ?_
      refine WC.seq ?_
      refine WC.cond_dec rfl (fun hc17 => ?_) (fun hc17 => ?_)
      · have h2i : 2 ^ i ≤ 4294967296 := Nat.le_trans (Nat.pow_le_pow_right (show 0 < 2 by decide) (show i ≤ 32 by omega)) (by decide)
        refine WC.skip ?_
        refine WX.next ?_
        refine WC.seq ?_
        refine WC.block ?_
        refine WC.region ?_
        refine qA ?_
        refine WL.ex rfl rfl rfl (Ex.mul rfl rfl (c := ((2 ^ (i + 1) : Nat) : Int)) (by rw [Nat.pow_succ, Nat.mul_comm]; exact u64dbl h2i)) ?_
        refine qB ?_
        refine WL.nil ?_
        refine WX.normal_block (WX.next (?_))
        refine WC.region ?_
        refine WL.ex rfl rfl rfl (Ex.add rfl rfl (i64w _ (by omega) (by omega))) ?_
        refine qA ?_
        refine WL.nil ?_
        refine WX.again (i + 1) ?_ ?_ (.cons rfl (.cons rfl (.cons rfl (.nil))))
        · (try dsimp only); omega
        · exact ⟨by omega, M17⟩
      · obtain rfl : i = d - k := by omega
        refine WC.exit ?_
        refine WX.exit_then (WX.exit_then (WX.exit_block (WX.next (?_))))
        refine qD ?_
        refine qA ?_
        refine qB ?_
        refine qE ?_
        refine WC.ret ?_
        refine WX.ret1 rfl rfl ?_
        rw [hpl]
        exact ⟨rfl, M17.keep⟩

end Go.Proofs.YtchmjpdkonfifaaDoor

set_option linter.unusedVariables false
set_option linter.unusedSimpArgs false
namespace Go.Proofs.YtchmjpdkonfifaaDoor
open Go.Sx Go.RowKit
attribute [local irreducible] Ac Ex WL WC WX WP Gives sha

theorem _root_.Go.Sx.Ac.appT {P : Program} {n : Nat} {env : Env} {w : World} {dst : Option Nat} {ty : TypeId} {pos : String} {aft : Array Edge} {g : Option (Nat × Bool)} {t e : TypeId} {sz bytes : Nat} (h : El P t e sz bytes) {s x : Operand} {m k c : Nat} {v : Value} {A : Option Addr} {xs news : List Value} (hr0 : (row v e sz m xs).sat w) (hs : ev env s = some v) (hx : ev env x = some (.slice A k c))
    (hl : news.length = k * sz) (hr : Rd w A news) (h1 : ∀ u ∈ news, u.oneCell' = true) (hb : (m + k) * bytes ≤ 140737488355328) (h63 : m + k ≤ maxLen) :
    Ac P n env (Oper.mk dst (.call { callee := .builtin .append, args := #[s, x], argTypes := #[t, t] }) ty pos aft g) w fun u w' => Turn w w' (row v e sz m xs) (row u e sz (m + k) (xs ++ news)) :=
  Ac.of_run fun a ha => by
    obtain ⟨v', w', h2, h3, h4, h5⟩ := run_app (c := c) h ty hr0 hl hr h1 hb h63
    exact ⟨v', w', by simp [execOp, resolve, invoke, builtin, ha.eval hs, ha.eval hx, h2], h4, h3, h5⟩
theorem _root_.Go.Sx.Mem.cutR {w0 w : World} {F : Nat → Prop} {rs : List Res} (M : Mem w0 w F rs) {i n m : Nat} {A : Option Addr} {c : Nat} {e : TypeId} {sz : Nat} {xs : List Value} (hi : rs[i]? = some (row (.slice A n c) e sz n xs)) (hm : m ≤ n) : Mem w0 w F (rs.set i (row (.slice A m c) e sz m (xs.take (m * sz)))) :=
  M.turn hi (Keep.refl _ _) (own_cut (M.get hi) hm) fun b hb => .inl (by cases A with | none => cases hb | some a => exact hb)
theorem own_cap {w : World} {A : Option Addr} {c n sz : Nat} {e : TypeId} {xs : List Value} (h : (row (.slice A n c) e sz n xs).sat w) : n ≤ c := by
  rcases h.2 with ⟨hv, hn⟩ | ⟨g, cap, cur, hv, hb, hg, hnc, _⟩
  · omega
  · simp only [Value.slice.injEq] at hv
    omega
theorem places_0 {d : Nat} : places d 0 = 2 ^ d := by
  unfold places
  rw [if_pos (by omega)]
  simp
theorem pow32 {d : Nat} (h : d ≤ 32) : 2 ^ d ≤ 4294967296 := Nat.le_trans (Nat.pow_le_pow_right (show 0 < 2 by decide) h) (by decide)

abbrev prfC (l : List (List UInt8)) : List Value := l.flatMap bytesV
abbrev PrfOk (l : List (List UInt8)) : Prop := ArrOk 32 (fun a => H32 a) l
theorem prf_len {l : List (List UInt8)} (h : PrfOk l) : (prfC l).length = 1024 := arr_len (fun h => h32_len h) h rfl
theorem prf_one {l : List (List UInt8)} : ∀ u ∈ prfC l, u.oneCell' = true := flat_one' fun _ => (bytesV_one _)
abbrev prf0 : List (List UInt8) := List.replicate 32 (List.replicate 32 0)
theorem prf0_ok : PrfOk prf0 := ⟨by simp, fun a ha => by rw [List.eq_of_mem_replicate ha]; exact h32_0⟩
theorem prfC_inj {a b : List (List UInt8)} (ha : PrfOk a) (hb : PrfOk b) (h : prfC a = prfC b) : a = b := flat_inj (ok := fun a => H32 a) (fun _ _ e => (fun e => bytesV_inj e) e) (fun h => h32_len h) (by rw [ha.len, hb.len]) ha.mem hb.mem h
abbrev prfK : List CK := rep 32 (rep 32 [.int .u8])
theorem oks_prf {w : World} {l : List (List UInt8)} (h : PrfOk l) : CK.oks w prfK (prfC l) := oks_arr (fun h => oks_h32 h) h
theorem prf_view {w : World} : ∀ vs, CK.oks w prfK vs → ∃ a, vs = prfC a ∧ PrfOk a := arr_view h32_view 32
set_option maxRecDepth 100000 in
theorem eqPrf (w : World) {a b : List (List UInt8)} (ha : PrfOk a) (hb : PrfOk b) : EqT Tryd.prog 34 (prfC a) (prfC b) (decide (a = b)) :=
  EqT.to (EqT_of (w := w) (n := 8) (ks := prfK) (by kernel_rfl) rfl (by kernel_rfl) (by decide) (by kernel_rfl) (by kernel_rfl) (by kernel_rfl) (oks_prf ha) (oks_prf hb)) ⟨(fun e => prfC_inj ha hb e), fun e => by rw [e]⟩

/-- The proof of place i, in a tree cut to n leaves. -/
def pF (ls : Hs) (n i k : Nat) : List UInt8 := nd dNode e0 (ls.take n) k ((i / 2 ^ k) ^^^ 1)
def mkP (d : Nat) (ls : Hs) (n i : Nat) : Hs := fillTo 32 d (pF ls n i) (List.replicate 32 0)
def mkE (ls : Hs) (n i : Nat) : Int := if ls.length < n then 1 else if n ≤ i then 10 else 0
def mkQ (d : Nat) (ls : Hs) (n i : Nat) : Hs := if mkE ls n i = 0 then mkP d ls n i else List.replicate 32 (List.replicate 32 0)
theorem xor1_even {x : Nat} (h : x % 2 = 0) : x ^^^ 1 = x + 1 := by
  apply Nat.eq_of_testBit_eq
  intro j
  rw [Nat.testBit_xor]
  cases j with
  | zero => simp [Nat.testBit_zero, h]; omega
  | succ j =>
    rw [Nat.testBit_succ, Nat.testBit_succ, Nat.testBit_succ]
    rw [show (x + 1) / 2 = x / 2 by omega]
    simp
theorem xor1_odd {x : Nat} (h : x % 2 = 1) : x ^^^ 1 = x - 1 := by
  have h2 := xor1_even (x := x - 1) (by omega)
  have h3 : (x - 1) ^^^ 1 ^^^ 1 = x - 1 := by rw [Nat.xor_assoc]; simp
  rw [h2, Nat.sub_add_cancel (by omega)] at h3
  exact h3
theorem pF32 {ls : Hs} (h : ∀ a ∈ ls, H32 a) (n i k : Nat) : H32 (pF ls n i k) := nd32 (take32 h n) _ _
theorem mkT_ok {d : Nat} {ls : Hs} {n i k : Nat} (hk : k < d) (hn : n ≤ ls.length) (hld : ls.length ≤ 2 ^ d) (hi : i < n) : tNode d ls n (k : Int) ((i / 2 ^ k) ^^^ 1) = (pF ls n i k, true) := by
  refine tNode_yes hn (by omega) ?_ rfl
  apply Nat.div_eq_of_lt
  have h1 : i / 2 ^ k < 2 ^ (d - k) := by
    apply (Nat.div_lt_iff_lt_mul (Nat.pow_pos (by decide))).2
    rw [← Nat.pow_add, Nat.sub_add_cancel (by omega)]
    omega
  have h2 : 2 ^ (d - k) = 2 * 2 ^ (d - k - 1) := by rw [← Nat.pow_succ']; congr 1; omega
  rw [h2] at h1 ⊢
  generalize i / 2 ^ k = x at h1 ⊢
  generalize 2 ^ (d - k - 1) = P at h1 ⊢
  rcases Nat.mod_two_eq_zero_or_one x with h | h
  · rw [xor1_even h]; omega
  · rw [xor1_odd h]; omega

theorem fillP_ok {ls : Hs} (h : ∀ a ∈ ls, H32 a) (n i k : Nat) : PrfOk (fillTo 32 k (pF ls n i) (List.replicate 32 0)) := ⟨by simp, fun a ha => by
  obtain ⟨j, _, rfl⟩ := List.mem_map.1 ha
  split
  · exact pF32 h n i j
  · exact h32_0⟩
theorem mkQ_ok {ls : Hs} (h : ∀ a ∈ ls, H32 a) (d n i : Nat) : PrfOk (mkQ d ls n i) := by
  unfold mkQ
  split
  · exact fillP_ok h n i d
  · exact prf0_ok

/- sponsion/proof.Make -/
theorem pMake_ok (w : World) (g gl ge d : Nat) (vs : List Value) (ls : Hs) (n i : Nat) (hTr : TreeS w g gl ge d vs (lvOf dNode e0 d ls)) (hE : ES w ge d) (hls : ∀ a ∈ ls, H32 a) (hld : ls.length ≤ 2 ^ d) (hn : n < 18446744073709551616) (hi : i < 18446744073709551616) (hd : d ≤ 32) (hT : Tabs w) :
    Gives Tryd.prog 41 #[.pointer (some ⟨g, 0, none⟩), .int .u64 (n : Int), .int .u64 (i : Int)] w fun u w1 => u = .tuple #[.agg (prfC (mkQ d ls n i)).toArray, .int .i64 (mkE ls n i)] ∧ Keep nof w w1 := by
  have M0 := Mem.start w nof
  have hl0 := lvOf_get (N := dNode) (e := e0) (d := d) (ls := ls) (j := 0) (by omega)
  rw [levOf_zero] at hl0
  have hp0 := prf0_ok
  refine Gives.enter (n := 45) Tryd.func41 rfl Tryd.ntmps41 rfl (env := [(0, .pointer (some ⟨g, 0, none⟩)), (1, .int .u64 (n : Int)), (2, .int .u64 (i : Int))]) rfl ?_
  refine qD ?_
  refine WL.ac rfl rfl rfl (Ac.alloc M0 (l := prfC prf0) (by kernel_rfl)) ?_; rintro v1 w1 ⟨go, rfl, hg1, K1, M1⟩
  refine qB ?_
  refine qE ?_
  refine qD ?_
  refine WL.ac rfl rfl rfl (Ac.alloc M1 (l := prfC prf0) (by kernel_rfl)) ?_; rintro v3 w3 ⟨gp, rfl, hg3, K3, M3⟩
  refine qE ?_
  refine WC.seq ?_
  refine WC.block ?_
  refine qD ?_
  refine qA ?_
  refine WL.ex rfl rfl rfl (Ex.eqPn Tryd.underlying68 rfl) ?_
  refine qA ?_
  refine WL.yes rfl rfl rfl rfl ?_
  refine qA ?_
  refine WL.yes rfl rfl rfl rfl ?_
  refine qA ?_
  refine WL.yes rfl rfl rfl rfl ?_
  refine WL.ac rfl rfl rfl (Ac.call rfl Tryd.func59 nm59 rfl (tLen_ok w3 g gl ge d vs _ ls (hTr.keep M3.keep) hl0)) ?_; rintro v9 w9 ⟨rfl, K9⟩
  have M9 := M3.step K9
  refine WL.yes rfl rfl rfl rfl ?_
  refine WL.ex rfl rfl rfl (Ex.gtr rfl rfl) ?_
  refine WL.ex rfl rfl rfl (Ex.pickF rfl rfl) ?_
  refine qB ?_
  refine qE ?_
  refine WC.cond_dec rfl (fun h10 => ?_) (fun h10 => ?_)
  · have hme : mkE ls n i = 1 := if_pos (by omega)
    have hmq : mkQ d ls n i = (List.replicate 32 (List.replicate 32 0)) := by rw [mkQ, hme]; rfl
    refine qD ?_
    refine WL.ex rfl rfl rfl (Ex.loadA ty34 rfl (prf_len (by first | assumption | exact prf0_ok)) (M9.rdw (i := 0) rfl)) ?_
    refine WL.ac0 rfl rfl (Ac.stA M9 ty34 rfl rfl rfl (prf_len (by first | assumption | exact prf0_ok)) (prf_one) (i := 1) rfl (by first | (rw [prf_len (by first | assumption | exact prf0_ok), prf_len (by first | assumption | exact prf0_ok)]; decide) | (rw [prf_len (by first | assumption | exact prf0_ok)]; decide) | rw [prf_len (by first | assumption | exact prf0_ok)])) ?_; rintro v14 w14 ⟨K14, M14⟩
    try dsimp only [List.set] at M14
    rw [splice_all _ _ (by first | rw [prf_len (by first | assumption | exact prf0_ok), prf_len (by first | assumption | exact prf0_ok)] | rw [prf_len (by first | assumption | exact prf0_ok)])] at M14
    refine qB ?_
    refine qE ?_
    refine WC.ret ?_
    refine WX.ret_block (WX.ret_then (?_))
    refine WX.retn rfl (.cell rfl (run_loadVarA ty34 (prf_len (by first | assumption | exact prf0_ok)) (M14.rdw (i := 1) rfl)) (.tmp rfl .nil)) rfl ?_
    rw [hme, hmq]
    exact ⟨rfl, M14.keep⟩
  · skip
    refine qD ?_
    refine qA ?_
    refine qA ?_
    refine WL.ex rfl rfl rfl (Ex.geq rfl rfl) ?_
    refine qB ?_
    refine qE ?_
    refine WC.cond_dec rfl (fun h20 => ?_) (fun h20 => ?_)
    · have hme : mkE ls n i = 10 := by rw [mkE, if_neg (by omega), if_pos (by omega)]
      have hmq : mkQ d ls n i = (List.replicate 32 (List.replicate 32 0)) := by rw [mkQ, hme]; rfl
      refine qD ?_
      refine WL.ex rfl rfl rfl (Ex.loadA ty34 rfl (prf_len (by first | assumption | exact prf0_ok)) (M9.rdw (i := 0) rfl)) ?_
      refine WL.ac0 rfl rfl (Ac.stA M9 ty34 rfl rfl rfl (prf_len (by first | assumption | exact prf0_ok)) (prf_one) (i := 1) rfl (by first | (rw [prf_len (by first | assumption | exact prf0_ok), prf_len (by first | assumption | exact prf0_ok)]; decide) | (rw [prf_len (by first | assumption | exact prf0_ok)]; decide) | rw [prf_len (by first | assumption | exact prf0_ok)])) ?_; rintro v21 w21 ⟨K21, M21⟩
      try dsimp only [List.set] at M21
      rw [splice_all _ _ (by first | rw [prf_len (by first | assumption | exact prf0_ok), prf_len (by first | assumption | exact prf0_ok)] | rw [prf_len (by first | assumption | exact prf0_ok)])] at M21
      refine qB ?_
      refine qE ?_
      refine WC.ret ?_
      refine WX.ret_block (WX.ret_then (?_))
      refine WX.retn rfl (.cell rfl (run_loadVarA ty34 (prf_len (by first | assumption | exact prf0_ok)) (M21.rdw (i := 1) rfl)) (.tmp rfl .nil)) rfl ?_
      rw [hme, hmq]
      exact ⟨rfl, M21.keep⟩
    · have hme : mkE ls n i = 0 := by rw [mkE, if_neg (by omega), if_neg (by omega)]
      have hmq : mkQ d ls n i = fillTo 32 d (pF ls n i) (List.replicate 32 0) := by rw [mkQ, hme]; rfl
      have hqo := fillP_ok hls n i d
      refine WC.skip ?_
      refine WX.normal_block (WX.next (?_))
      refine WC.seq ?_
      refine qD ?_
      refine qA ?_
      refine WL.ac rfl rfl rfl (Ac.call rfl Tryd.func64 nm64 rfl (tDepth_ok w9 g gl ge d vs _ (hTr.keep M9.keep) hd)) ?_; rintro v24 w24 ⟨rfl, K24⟩
      have M24 := M9.step K24
      refine qA ?_
      refine qE ?_
      refine WC.block ?_
      refine WC.loop (σ := Nat) (fun k => [(0, .pointer (some ⟨g, 0, none⟩)), (1, .int .u64 (n : Int)), (2, .int .u64 (i : Int)), (6, .pointer (some ⟨go, 0, none⟩)), (8, .pointer (some ⟨gp, 0, none⟩)), (26, .int .i64 (d : Int)), (27, .int .i64 (k : Int))]) (fun k wr => k ≤ d ∧ Mem w wr nof [blk gp (prfC (fillTo 32 k (pF ls n i) (List.replicate 32 0))) 34, blk go (prfC ((List.replicate 32 (List.replicate 32 0)))) 34]) (fun k => d - k) (0) ?_ (.cons rfl (.cons rfl (.cons rfl (.cons rfl (.cons rfl (.cons rfl (.cons rfl (.nil)))))))) ?_
      · refine ⟨by omega, ?_⟩
        rw [fillTo_zero]
        exact M24
      rintro k w26 ⟨hk, M26⟩
      refine qD ?_
      refine WL.ex rfl rfl rfl (Ex.lss rfl rfl) ?_
      refine qE ?_
      refine WC.seq ?_
      refine WC.cond_dec rfl (fun hc28 => ?_) (fun hc28 => ?_)
      · have hf32 := pF32 hls n i k
        have hpo := fillP_ok hls n i k
        have hmt := mkT_ok (d := d) (ls := ls) (n := n) (i := i) (k := k) (by omega) (by omega) hld (by omega)
        have hdv := Nat.div_le_self i (2 ^ k)
        have hxl : (i / 2 ^ k) ^^^ 1 < 18446744073709551616 := Nat.xor_lt_two_pow (n := 64) (by omega) (by decide)
        refine WC.skip ?_
        refine WX.next ?_
        refine WC.seq ?_
        refine WC.block ?_
        refine qD ?_
        refine qA ?_
        refine qB ?_
        refine qE ?_
        refine WC.region ?_
        refine qA ?_
        refine qA ?_
        refine qA ?_
        refine qA ?_
        refine qA ?_
        refine qA ?_
        refine WL.ex rfl rfl rfl (Ex.shr rfl rfl (m := k) rfl (c := ((i / 2 ^ k : Nat) : Int)) (shrN _ _ _ (by simp [IntKind.bits]; omega))) ?_
        refine WL.ex rfl rfl rfl (Ex.bxor rfl rfl (c := (((i / 2 ^ k) ^^^ 1 : Nat) : Int)) (u64_xor_nat (i / 2 ^ k) 1 (by omega) (by decide))) ?_
        refine WL.ac rfl rfl rfl (Ac.call rfl Tryd.func40 nm40 rfl (tNode_ok w26 g gl ge d vs ls n (k : Int) ((i / 2 ^ k) ^^^ 1) (hTr.keep M26.keep) (hE.keep M26.keep) hls hn (by omega) hxl hd (hT.keep M26.keep))) ?_; rintro v38 w38 ⟨rfl, K38⟩
        rw [hmt]
        have M38 := M26.step K38
        refine qA ?_
        refine WL.ex rfl rfl rfl (Ex.ext rfl rfl) ?_
        refine WL.ex rfl rfl rfl (Ex.ext rfl rfl) ?_
        refine WL.ex rfl rfl rfl (Ex.iaA Tryd.underlying34 sz31 rfl rfl ⟨by omega, by omega⟩) ?_
        refine WL.ac0 rfl rfl (Ac.stA M38 ty31 rfl rfl (vs := bytesV (pF ls n i k)) rfl (h32_len hf32) (bytesV_one _) (i := 0) rfl (by rw [h32_len hf32, prf_len hpo]; simp; omega)) ?_; rintro v43 w43 ⟨K43, M43⟩
        try dsimp only [List.set] at M43
        rw [prfC, flat_set (fun a ha => h32_len (hpo.mem a ha)) (h32_len hf32) (i := k) (by rw [hpo.len]; omega) (by simp)] at M43
        rw [show (fillTo 32 k (pF ls n i) (List.replicate 32 0)).set k (pF ls n i k) = fillTo 32 (k + 1) (pF ls n i) (List.replicate 32 0) from fillTo_set 32 k (pF ls n i) _] at M43
        refine WL.nil ?_
        refine WX.normal_block (WX.next (?_))
        refine WC.region ?_
        refine WL.ex rfl rfl rfl (Ex.add rfl rfl (i64w _ (by omega) (by omega))) ?_
        refine qA ?_
        refine WL.nil ?_
        refine WX.again (k + 1) ?_ ?_ (.cons rfl (.cons rfl (.cons rfl (.cons rfl (.cons rfl (.cons rfl (.cons rfl (.nil))))))))
        · (try dsimp only); omega
        · exact ⟨by omega, M43⟩
      · obtain rfl : d = k := by omega
        refine WC.exit ?_
        refine WX.exit_then (WX.exit_then (WX.exit_block (WX.next (?_))))
        refine qD ?_
        refine WL.ex rfl rfl rfl (Ex.loadA ty34 rfl (prf_len (by first | assumption | exact prf0_ok)) (M26.rdw (i := 0) rfl)) ?_
        refine WL.ac0 rfl rfl (Ac.stA M26 ty34 rfl rfl rfl (prf_len (by first | assumption | exact prf0_ok)) (prf_one) (i := 1) rfl (by first | (rw [prf_len (by first | assumption | exact prf0_ok), prf_len (by first | assumption | exact prf0_ok)]; decide) | (rw [prf_len (by first | assumption | exact prf0_ok)]; decide) | rw [prf_len (by first | assumption | exact prf0_ok)])) ?_; rintro v47 w47 ⟨K47, M47⟩
        try dsimp only [List.set] at M47
        rw [splice_all _ _ (by first | rw [prf_len (by first | assumption | exact prf0_ok), prf_len (by first | assumption | exact prf0_ok)] | rw [prf_len (by first | assumption | exact prf0_ok)])] at M47
        refine qB ?_
        refine qE ?_
        refine WC.ret ?_
        refine WX.retn rfl (.cell rfl (run_loadVarA ty34 (prf_len (by first | assumption | exact prf0_ok)) (M47.rdw (i := 1) rfl)) (.tmp rfl .nil)) rfl ?_
        rw [hme, hmq]
        exact ⟨rfl, M47.keep⟩

/- sponsion/proof.Make#nil -/
theorem pMakeNil_ok (w : World) (n i : Nat) :
    Gives Tryd.prog 41 #[.pointer none, .int .u64 (n : Int), .int .u64 (i : Int)] w fun u w1 => u = .tuple #[.agg (prfC (List.replicate 32 (List.replicate 32 0))).toArray, .int .i64 1] ∧ Keep nof w w1 := by
  have M0 := Mem.start w nof
  have hp0 := prf0_ok
  refine Gives.enter (n := 45) Tryd.func41 rfl Tryd.ntmps41 rfl (env := [(0, .pointer none), (1, .int .u64 (n : Int)), (2, .int .u64 (i : Int))]) rfl ?_
  refine qD ?_
  refine WL.ac rfl rfl rfl (Ac.alloc M0 (l := prfC prf0) (by kernel_rfl)) ?_; rintro v1 w1 ⟨go, rfl, hg1, K1, M1⟩
  refine qB ?_
  refine qE ?_
  refine qD ?_
  refine WL.ac rfl rfl rfl (Ac.alloc M1 (l := prfC prf0) (by kernel_rfl)) ?_; rintro v3 w3 ⟨gp, rfl, hg3, K3, M3⟩
  refine qE ?_
  refine WC.seq ?_
  refine WC.block ?_
  refine qD ?_
  refine qA ?_
  refine WL.ex rfl rfl rfl (Ex.eqPn Tryd.underlying68 rfl) ?_
  refine qA ?_
  refine WL.no rfl rfl rfl rfl rfl rfl ?_
  refine WL.no rfl rfl rfl rfl rfl rfl ?_
  refine WL.no rfl rfl rfl rfl rfl rfl ?_
  refine WL.no rfl rfl rfl rfl rfl rfl ?_
  refine WL.ex rfl rfl rfl (Ex.pickT rfl rfl) ?_
  refine qB ?_
  refine qE ?_
  refine WC.yes rfl ?_
  refine qD ?_
  refine WL.ex rfl rfl rfl (Ex.loadA ty34 rfl (prf_len (by first | assumption | exact prf0_ok)) (M3.rdw (i := 0) rfl)) ?_
  refine WL.ac0 rfl rfl (Ac.stA M3 ty34 rfl rfl rfl (prf_len (by first | assumption | exact prf0_ok)) (prf_one) (i := 1) rfl (by first | (rw [prf_len (by first | assumption | exact prf0_ok), prf_len (by first | assumption | exact prf0_ok)]; decide) | (rw [prf_len (by first | assumption | exact prf0_ok)]; decide) | rw [prf_len (by first | assumption | exact prf0_ok)])) ?_; rintro v10 w10 ⟨K10, M10⟩
  try dsimp only [List.set] at M10
  rw [splice_all _ _ (by first | rw [prf_len (by first | assumption | exact prf0_ok), prf_len (by first | assumption | exact prf0_ok)] | rw [prf_len (by first | assumption | exact prf0_ok)])] at M10
  refine qB ?_
  refine qE ?_
  refine WC.ret ?_
  refine WX.ret_block (WX.ret_then (?_))
  refine WX.retn rfl (.cell rfl (run_loadVarA ty34 (prf_len (by first | assumption | exact prf0_ok)) (M10.rdw (i := 1) rfl)) (.tmp rfl .nil)) rfl ?_
  exact ⟨rfl, M10.keep⟩

theorem xor_lt {d i k : Nat} (hk : k < d) (hi : i < 2 ^ d) : (i / 2 ^ k) ^^^ 1 < 2 ^ (d - k) := by
  have h1 : i / 2 ^ k < 2 ^ (d - k) := by
    apply (Nat.div_lt_iff_lt_mul (Nat.pow_pos (by decide))).2
    rw [← Nat.pow_add, Nat.sub_add_cancel (by omega)]
    exact hi
  have h2 : 2 ^ (d - k) = 2 * 2 ^ (d - k - 1) := by rw [← Nat.pow_succ']; congr 1; omega
  rw [h2] at h1 ⊢
  generalize i / 2 ^ k = x at h1 ⊢
  generalize 2 ^ (d - k - 1) = P at h1 ⊢
  rcases Nat.mod_two_eq_zero_or_one x with h | h
  · rw [xor1_even h]; omega
  · rw [xor1_odd h]; omega
theorem xor_pow {d i k : Nat} (hd : d ≤ 32) (hk : k < d) (hi : i < 2 ^ d) : ((i / 2 ^ k) ^^^ 1) + 1 ≤ 4294967296 ∧ (((i / 2 ^ k) ^^^ 1) + 1) * 2 ^ k ≤ 4294967296 := by
  have h := xor_lt hk hi
  have h1 : (((i / 2 ^ k) ^^^ 1) + 1) * 2 ^ k ≤ 2 ^ (d - k) * 2 ^ k := Nat.mul_le_mul_right _ h
  rw [← Nat.pow_add, Nat.sub_add_cancel (by omega)] at h1
  have h2 := pow32 hd
  have h3 : 2 ^ (d - k) ≤ 2 ^ 32 := Nat.pow_le_pow_right (by decide) (by omega)
  exact ⟨by omega, by omega⟩

/- sponsion/sponsionref11.Make -/
theorem rMake_ok (w : World) (d : Nat) (A : Option Addr) (c : Nat) (ls ls1 : Hs) (n i : Nat) (hr : Rd w A (fl ls1)) (hls : ∀ a ∈ ls, H32 a) (hl : ls1 = ls.take n) (hlen : ls1.length ≤ 4294967296) (hd : d ≤ 32) (hi : i < 2 ^ d) (hR : TabR w) :
    Gives Tryd.prog 17 #[.int .i64 (d : Int), .slice A ls1.length c, .int .u64 (i : Int)] w fun u w1 => u = .agg (prfC (fillTo 32 d (pF ls n i) (List.replicate 32 0))).toArray ∧ Keep nof w w1 := by
  have M0 := Mem.start w nof
  have h1s : ∀ a ∈ ls1, H32 a := by rw [hl]; exact take32 hls n
  have hqo := fillP_ok hls n i d
  have hp2 := pow32 hd
  refine Gives.enter (n := 34) Tryd.func17 rfl Tryd.ntmps17 rfl (env := [(0, .int .i64 (d : Int)), (1, .slice A ls1.length c), (2, .int .u64 (i : Int))]) rfl ?_
  refine qD ?_
  refine WL.ac rfl rfl rfl (Ac.alloc M0 (l := prfC prf0) (by kernel_rfl)) ?_; rintro v1 w1 ⟨go, rfl, hg1, K1, M1⟩
  refine qE ?_
  refine qD ?_
  refine WL.ac rfl rfl rfl (Ac.alloc M1 (l := prfC prf0) (by kernel_rfl)) ?_; rintro v2 w2 ⟨gp, rfl, hg2, K2, M2⟩
  refine qE ?_
  refine WC.seq ?_
  refine qD ?_
  refine qA ?_
  refine qA ?_
  refine qE ?_
  refine WC.block ?_
  refine WC.loop (σ := Nat × Nat) (fun s => [(1, .slice A ls1.length c), (2, .int .u64 (s.2 : Int)), (6, .pointer (some ⟨go, 0, none⟩)), (7, .pointer (some ⟨gp, 0, none⟩)), (9, .int .i64 (d : Int)), (10, .int .i64 (s.1 : Int))]) (fun s wr => s.1 ≤ d ∧ s.2 = i / 2 ^ s.1 ∧ Mem w wr nof [blk gp (prfC (fillTo 32 s.1 (pF ls n i) (List.replicate 32 0))) 34, blk go (prfC ((List.replicate 32 (List.replicate 32 0)))) 34]) (fun s => d - s.1) (((0, i) : Nat × Nat)) ?_ (.cons rfl (.cons rfl (.cons rfl (.cons rfl (.cons rfl (.cons rfl (.nil))))))) ?_
  · refine ⟨by simp, by simp, ?_⟩
    dsimp only
    rw [fillTo_zero]
    exact M2
  rintro ⟨k, j⟩ w5 ⟨hk, hj, M5⟩
  dsimp only at hk hj M5
  refine WC.sub (env' := [(1, .slice A ls1.length c), (2, .int .u64 (j : Int)), (6, .pointer (some ⟨go, 0, none⟩)), (7, .pointer (some ⟨gp, 0, none⟩)), (9, .int .i64 (d : Int)), (10, .int .i64 (k : Int))]) (.cons rfl (.cons rfl (.cons rfl (.cons rfl (.cons rfl (.cons rfl (.nil))))))) ?_
  refine qD ?_
  refine WL.ex rfl rfl rfl (Ex.lss rfl rfl) ?_
  refine qE ?_
  refine WC.seq ?_
  refine WC.cond_dec rfl (fun hc11 => ?_) (fun hc11 => ?_)
  · have hf32 := pF32 hls n i k
    have hpo := fillP_ok hls n i k
    have hxp := xor_pow hd (by omega : k < d) hi
    have hjl := Nat.div_le_self i (2 ^ k)
    rw [← hj] at hxp hjl
    refine WC.skip ?_
    refine WX.next ?_
    refine WC.seq ?_
    refine WC.block ?_
    refine qD ?_
    refine qA ?_
    refine qB ?_
    refine qE ?_
    refine WC.seq ?_
    refine qD ?_
    refine qA ?_
    refine WL.ex rfl rfl rfl (Ex.rem rfl rfl (by decide) (c := ((j % 2 : Nat) : Int)) (tmodT _ 2)) ?_
    refine WL.ex rfl rfl rfl (Ex.eqI rfl rfl) ?_
    refine qE ?_
    refine WC.cond_dec rfl (fun h15 => ?_) (fun h15 => ?_)
    · have hx := xor1_even (x := j) (by omega)
      refine WC.region ?_
      refine qA ?_
      refine qA ?_
      refine qA ?_
      refine qA ?_
      refine WL.ex rfl rfl rfl (Ex.add rfl rfl (c := ((j + 1 : Nat) : Int)) (by rw [show (j : Int) + 1 = ((j + 1 : Nat) : Int) by omega]; exact u64w_lt _ (by omega))) ?_
      refine WL.ac rfl rfl rfl (Ac.call rfl Tryd.func15 nm15 rfl (rNode_ok w5 A c ls1 k (j + 1) (hr.keep0 M5.keep) h1s hlen (by omega) (by rw [← hx]; exact hxp.2) (hR.keep0 M5.keep))) ?_; rintro v17 w17 ⟨rfl, K17⟩
      rw [show nd dNode e0 ls1 k (j + 1) = pF ls n i k by rw [pF, ← hl, ← hj, hx]]
      have M17 := M5.step K17
      refine WL.ex rfl rfl rfl (Ex.iaA Tryd.underlying34 sz31 rfl rfl ⟨by omega, by omega⟩) ?_
      refine WL.ac0 rfl rfl (Ac.stA M17 ty31 rfl rfl (vs := bytesV (pF ls n i k)) rfl (h32_len hf32) (bytesV_one _) (i := 0) rfl (by rw [h32_len hf32, prf_len hpo]; simp; omega)) ?_; rintro v19 w19 ⟨K19, M19⟩
      try dsimp only [List.set] at M19
      rw [prfC, flat_set (fun a ha => h32_len (hpo.mem a ha)) (h32_len hf32) (i := k) (by rw [hpo.len]; omega) (by simp)] at M19
      rw [show (fillTo 32 k (pF ls n i) (List.replicate 32 0)).set k (pF ls n i k) = fillTo 32 (k + 1) (pF ls n i) (List.replicate 32 0) from fillTo_set 32 k (pF ls n i) _] at M19
      refine qE ?_
      refine WC.region ?_
      refine qA ?_
      refine WL.ex rfl rfl rfl (Ex.quo rfl rfl (by decide) (c := ((j / 2 : Nat) : Int)) (u64quo _ 2 (by omega))) ?_
      refine qB ?_
      refine WL.nil ?_
      refine WX.normal_block (WX.next (?_))
      refine WC.region ?_
      refine WL.ex rfl rfl rfl (Ex.add rfl rfl (i64w _ (by omega) (by omega))) ?_
      refine qA ?_
      refine WL.nil ?_
      refine WX.again (((k + 1, j / 2) : Nat × Nat)) ?_ ?_ (.cons rfl (.cons rfl (.cons rfl (.cons rfl (.cons rfl (.cons rfl (.nil)))))))
      · dsimp only; omega
      · exact ⟨by dsimp only; omega, by dsimp only; rw [div_up, hj], M19⟩
    · have hx := xor1_odd (x := j) (by omega)
      refine WC.region ?_
      refine qA ?_
      refine qA ?_
      refine qA ?_
      refine qA ?_
      refine WL.ex rfl rfl rfl (Ex.sub rfl rfl (c := ((j - 1 : Nat) : Int)) (u64sub (b := 1) (by omega) (by omega))) ?_
      refine WL.ac rfl rfl rfl (Ac.call rfl Tryd.func15 nm15 rfl (rNode_ok w5 A c ls1 k (j - 1) (hr.keep0 M5.keep) h1s hlen (by omega) (by rw [← hx]; exact hxp.2) (hR.keep0 M5.keep))) ?_; rintro v30 w30 ⟨rfl, K30⟩
      rw [show nd dNode e0 ls1 k (j - 1) = pF ls n i k by rw [pF, ← hl, ← hj, hx]]
      have M30 := M5.step K30
      refine WL.ex rfl rfl rfl (Ex.iaA Tryd.underlying34 sz31 rfl rfl ⟨by omega, by omega⟩) ?_
      refine WL.ac0 rfl rfl (Ac.stA M30 ty31 rfl rfl (vs := bytesV (pF ls n i k)) rfl (h32_len hf32) (bytesV_one _) (i := 0) rfl (by rw [h32_len hf32, prf_len hpo]; simp; omega)) ?_; rintro v32 w32 ⟨K32, M32⟩
      try dsimp only [List.set] at M32
      rw [prfC, flat_set (fun a ha => h32_len (hpo.mem a ha)) (h32_len hf32) (i := k) (by rw [hpo.len]; omega) (by simp)] at M32
      rw [show (fillTo 32 k (pF ls n i) (List.replicate 32 0)).set k (pF ls n i k) = fillTo 32 (k + 1) (pF ls n i) (List.replicate 32 0) from fillTo_set 32 k (pF ls n i) _] at M32
      refine qE ?_
      refine WC.region ?_
      refine qA ?_
      refine WL.ex rfl rfl rfl (Ex.quo rfl rfl (by decide) (c := ((j / 2 : Nat) : Int)) (u64quo _ 2 (by omega))) ?_
      refine qB ?_
      refine WL.nil ?_
      refine WX.normal_block (WX.next (?_))
      refine WC.region ?_
      refine WL.ex rfl rfl rfl (Ex.add rfl rfl (i64w _ (by omega) (by omega))) ?_
      refine qA ?_
      refine WL.nil ?_
      refine WX.again (((k + 1, j / 2) : Nat × Nat)) ?_ ?_ (.cons rfl (.cons rfl (.cons rfl (.cons rfl (.cons rfl (.cons rfl (.nil)))))))
      · dsimp only; omega
      · exact ⟨by dsimp only; omega, by dsimp only; rw [div_up, hj], M32⟩
  · obtain rfl : d = k := by omega
    refine WC.exit ?_
    refine WX.exit_then (WX.exit_then (WX.exit_block (WX.next (?_))))
    refine qD ?_
    refine WL.ex rfl rfl rfl (Ex.loadA ty34 rfl (prf_len (by first | assumption | exact prf0_ok)) (M5.rdw (i := 0) rfl)) ?_
    refine WL.ac0 rfl rfl (Ac.stA M5 ty34 rfl rfl rfl (prf_len (by first | assumption | exact prf0_ok)) (prf_one) (i := 1) rfl (by first | (rw [prf_len (by first | assumption | exact prf0_ok), prf_len (by first | assumption | exact prf0_ok)]; decide) | (rw [prf_len (by first | assumption | exact prf0_ok)]; decide) | rw [prf_len (by first | assumption | exact prf0_ok)])) ?_; rintro v39 w39 ⟨K39, M39⟩
    try dsimp only [List.set] at M39
    rw [splice_all _ _ (by first | rw [prf_len (by first | assumption | exact prf0_ok), prf_len (by first | assumption | exact prf0_ok)] | rw [prf_len (by first | assumption | exact prf0_ok)])] at M39
    refine qE ?_
    refine WC.ret ?_
    refine WX.retc rfl rfl (run_loadVarA ty34 (prf_len (by first | assumption | exact prf0_ok)) (M39.rdw (i := 1) rfl)) ?_
    exact ⟨rfl, M39.keep⟩

end Go.Proofs.YtchmjpdkonfifaaDoor

set_option linter.unusedVariables false
set_option linter.unusedSimpArgs false
namespace Go.Proofs.YtchmjpdkonfifaaDoor
open Go.Sx Go.RowKit
attribute [local irreducible] Ac Ex WL WC WX WP Gives sha

theorem _root_.Go.Sx.Ex.slAlE {P : Program} {n : Nat} {env : Env} {w : World} {dst : Option Nat} {ty : TypeId} {pos : String} {aft : Array Edge} {g : Option (Nat × Bool)} {t e : TypeId} {x y : Operand} {b o m sz : Nat} {k : IntKind} {j : Int} (ht : P.underlying t = some (.array m e)) (he : (P.info? e).map (·.size) = some sz) (hx : ev env x = some (.pointer (some ⟨b, o, none⟩))) (hy : ev env y = some (.int k j)) (h0 : 0 ≤ j) (h1 : j ≤ m) :
    Ex P n env (Oper.mk dst (.slice t x (some y) none none) ty pos aft g) (.slice (some ⟨b, if m = j.toNat then o else o + j.toNat * sz, none⟩) (m - j.toNat) (m - j.toNat)) w := by
  unfold Go.Sx.Ex
  intro a ha
  by_cases hne : m = j.toNat
  · subst hne
    simp [execOp, ha.eval hx, ha.eval hy, Instr.sliceAt, run_underlying ht, Instr.sureAddr, Instr.sliceBounds, run_bound h0 h1, Go.Sx.run_sizeOf he]
  · simp [execOp, ha.eval hx, ha.eval hy, Instr.sliceAt, run_underlying ht, Instr.sureAddr, Instr.sliceBounds, run_bound h0 h1, Go.Sx.run_sizeOf he, hne, add0]
def clB (P : Hs) (i : Nat) (a : List UInt8) : Nat → List UInt8
  | 0 => a
  | k + 1 => if i / 2 ^ k % 2 = 0 then dNode (clB P i a k) (P.getD k []) else dNode (P.getD k []) (clB P i a k)
theorem clB32 {P : Hs} {i : Nat} {a : List UInt8} (ha : H32 a) : ∀ k, H32 (clB P i a k)
  | 0 => ha
  | k + 1 => by unfold clB; split <;> exact dNode_len _ _
abbrev zH : List UInt8 := List.replicate 32 0
/-- What is told of a climb. -/
def climbR (z : Int) (i : Nat) (a : List UInt8) (P : Hs) : List UInt8 × Int :=
  if z < 0 ∨ 32 < z then (zH, 1) else if i / 2 ^ z.toNat ≠ 0 then (zH, 10) else if ∀ x ∈ P.drop z.toNat, x = zH then (clB P i a z.toNat, 0) else (zH, 6)
theorem climb_1 {z : Int} {i : Nat} {a : List UInt8} {P : Hs} (h : z < 0 ∨ 32 < z) : climbR z i a P = (zH, 1) := if_pos h
theorem climb_10 {d i : Nat} {a : List UInt8} {P : Hs} (hd : d ≤ 32) (h : i / 2 ^ d ≠ 0) : climbR (d : Int) i a P = (zH, 10) := by rw [climbR, if_neg (by omega), if_pos (by simpa using h)]
theorem climb_6 {d i : Nat} {a x : List UInt8} {P : Hs} (hd : d ≤ 32) (h : i / 2 ^ d = 0) (hx : x ∈ P.drop d) (hn : x ≠ zH) : climbR (d : Int) i a P = (zH, 6) := by
  rw [climbR, if_neg (by omega), if_neg (by simpa using h), if_neg (fun hall => hn (hall x (by simpa using hx)))]
theorem climb_0 {d i : Nat} {a : List UInt8} {P : Hs} (hd : d ≤ 32) (h : i / 2 ^ d = 0) (hx : ∀ x ∈ P.drop d, x = zH) : climbR (d : Int) i a P = (clB P i a d, 0) := by
  rw [climbR, if_neg (by omega), if_neg (by simpa using h), if_pos (by simpa using hx)]
  rfl

/- sponsion/proof.Climb -/
theorem climb_ok (w : World) (z : Int) (i : Nat) (a : List UInt8) (P : Hs) (hi : i < 18446744073709551616) (ha : H32 a) (hP : PrfOk P) (hT : Tabs w) :
    Gives Tryd.prog 55 #[.int .i64 z, .int .u64 (i : Int), .agg (bytesV a).toArray, .agg (prfC P).toArray] w fun u w1 => u = .tuple #[.agg (bytesV (climbR z i a P).1).toArray, .int .i64 (climbR z i a P).2] ∧ Keep nof w w1 := by
  have M0 := Mem.start w nof
  have hPl : P.length = 32 := hP.len
  have hPm := hP.mem
  refine Gives.enter (n := 61) Tryd.func55 rfl Tryd.ntmps55 rfl (env := [(0, .int .i64 z), (1, .int .u64 (i : Int)), (2, .agg (bytesV a).toArray), (3, .agg (prfC P).toArray)]) rfl ?_
  refine qD ?_
  refine WL.ac rfl rfl rfl (Ac.box M0 rfl rfl) ?_; rintro v1 w1 ⟨ga, rfl, hg1, K1, M1⟩
  refine WL.ac rfl rfl rfl (Ac.box M1 rfl rfl) ?_; rintro v2 w2 ⟨gP, rfl, hg2, K2, M2⟩
  refine WL.ac rfl rfl rfl (Ac.alloc M2 (l := bytesV (List.replicate 32 0)) (by kernel_rfl)) ?_; rintro v3 w3 ⟨go, rfl, hg3, K3, M3⟩
  refine qB ?_
  refine qE ?_
  refine WC.seq ?_
  refine WC.block ?_
  refine qD ?_
  refine qA ?_
  refine WL.ex rfl rfl rfl (Ex.lss rfl rfl) ?_
  refine qA ?_
  by_cases h1 : z < 0
  · rw [decide_eq_true h1]
    have hcl := climb_1 (i := i) (a := a) (P := P) (.inl h1)
    refine WL.no rfl rfl rfl rfl rfl rfl ?_
    refine WL.no rfl rfl rfl rfl rfl rfl ?_
    refine WL.ex rfl rfl rfl (Ex.pickT rfl rfl) ?_
    refine qB ?_
    refine qE ?_
    refine WC.yes rfl ?_
    refine qD ?_
    refine WL.ex rfl rfl rfl (Ex.bld bd31 (parts := []) (l := bytesV (List.replicate 32 0)) rfl rfl rfl rfl) ?_
    refine WL.ac0 rfl rfl (Ac.stA M3 ty31 rfl rfl rfl (h32_len (by first | assumption | exact h32_0)) (bytesV_one _) (i := 0) rfl (by first | (rw [h32_len (by first | assumption | exact h32_0), h32_len (by first | assumption | exact h32_0)]; decide) | (rw [h32_len (by first | assumption | exact h32_0)]; decide) | rw [h32_len (by first | assumption | exact h32_0)])) ?_; rintro v11 w11 ⟨K11, M11⟩
    try dsimp only [List.set] at M11
    rw [splice_all _ _ (by first | rw [h32_len (by first | assumption | exact h32_0), h32_len (by first | assumption | exact h32_0)] | rw [h32_len (by first | assumption | exact h32_0)])] at M11
    refine qB ?_
    refine qE ?_
    refine WC.ret ?_
    refine WX.ret_block (WX.ret_then (?_))
    refine WX.retn rfl (.cell rfl (run_loadVarA ty31 (h32_len (by first | assumption | exact h32_0)) (M11.rdw (i := 0) rfl)) (.tmp rfl .nil)) rfl ?_
    rw [hcl]
    exact ⟨rfl, M11.keep⟩
  · rw [decide_eq_false h1]
    refine WL.yes rfl rfl rfl rfl ?_
    refine qA ?_
    refine WL.yes rfl rfl rfl rfl ?_
    refine WL.ex rfl rfl rfl (Ex.gtr rfl rfl) ?_
    refine WL.ex rfl rfl rfl (Ex.pickF rfl rfl) ?_
    refine qB ?_
    refine qE ?_
    refine WC.cond_dec rfl (fun h2 => ?_) (fun h2 => ?_)
    · have hcl := climb_1 (i := i) (a := a) (P := P) (.inr h2)
      refine qD ?_
      refine WL.ex rfl rfl rfl (Ex.bld bd31 (parts := []) (l := bytesV (List.replicate 32 0)) rfl rfl rfl rfl) ?_
      refine WL.ac0 rfl rfl (Ac.stA M3 ty31 rfl rfl rfl (h32_len (by first | assumption | exact h32_0)) (bytesV_one _) (i := 0) rfl (by first | (rw [h32_len (by first | assumption | exact h32_0), h32_len (by first | assumption | exact h32_0)]; decide) | (rw [h32_len (by first | assumption | exact h32_0)]; decide) | rw [h32_len (by first | assumption | exact h32_0)])) ?_; rintro v18 w18 ⟨K18, M18⟩
      try dsimp only [List.set] at M18
      rw [splice_all _ _ (by first | rw [h32_len (by first | assumption | exact h32_0), h32_len (by first | assumption | exact h32_0)] | rw [h32_len (by first | assumption | exact h32_0)])] at M18
      refine qB ?_
      refine qE ?_
      refine WC.ret ?_
      refine WX.ret_block (WX.ret_then (?_))
      refine WX.retn rfl (.cell rfl (run_loadVarA ty31 (h32_len (by first | assumption | exact h32_0)) (M18.rdw (i := 0) rfl)) (.tmp rfl .nil)) rfl ?_
      rw [hcl]
      exact ⟨rfl, M18.keep⟩
    · obtain ⟨d, rfl⟩ := Int.eq_ofNat_of_zero_le (show 0 ≤ z by omega)
      have hd : d ≤ 32 := by omega
      refine qD ?_
      refine qA ?_
      refine qA ?_
      refine WL.ex rfl rfl rfl (Ex.shr rfl rfl (m := d) rfl (c := ((i / 2 ^ d : Nat) : Int)) (shrN _ _ _ (by simp [IntKind.bits]; omega))) ?_
      refine WL.ex rfl rfl rfl (Ex.neI rfl rfl) ?_
      refine qB ?_
      refine qE ?_
      refine WC.cond rfl (fun h3 => ?_) (fun h3 => ?_)
      · have h4 : i / 2 ^ d ≠ 0 := fun h6 => by rw [h6] at h3; simp at h3
        have hcl := climb_10 (a := a) (P := P) hd h4
        refine qD ?_
        refine WL.ex rfl rfl rfl (Ex.bld bd31 (parts := []) (l := bytesV (List.replicate 32 0)) rfl rfl rfl rfl) ?_
        refine WL.ac0 rfl rfl (Ac.stA M3 ty31 rfl rfl rfl (h32_len (by first | assumption | exact h32_0)) (bytesV_one _) (i := 0) rfl (by first | (rw [h32_len (by first | assumption | exact h32_0), h32_len (by first | assumption | exact h32_0)]; decide) | (rw [h32_len (by first | assumption | exact h32_0)]; decide) | rw [h32_len (by first | assumption | exact h32_0)])) ?_; rintro v26 w26 ⟨K26, M26⟩
        try dsimp only [List.set] at M26
        rw [splice_all _ _ (by first | rw [h32_len (by first | assumption | exact h32_0), h32_len (by first | assumption | exact h32_0)] | rw [h32_len (by first | assumption | exact h32_0)])] at M26
        refine qB ?_
        refine qE ?_
        refine WC.ret ?_
        refine WX.ret_block (WX.ret_then (?_))
        refine WX.retn rfl (.cell rfl (run_loadVarA ty31 (h32_len (by first | assumption | exact h32_0)) (M26.rdw (i := 0) rfl)) (.tmp rfl .nil)) rfl ?_
        rw [hcl]
        exact ⟨rfl, M26.keep⟩
      · have h4 : i / 2 ^ d = 0 := by
          have h6 : ((i / 2 ^ d : Nat) : Int) = 0 := (by simpa using h3)
          exact_mod_cast h6
        refine WC.skip ?_
        refine WX.normal_block (WX.next (?_))
        refine WC.seq ?_
        refine qD ?_
        refine qA ?_
        refine WL.ex rfl rfl rfl (Ex.slAlE Tryd.underlying34 sz31 rfl rfl (Int.natCast_nonneg _) (by omega)) ?_
        rw [Int.toNat_natCast]
        obtain ⟨oP, hoP⟩ : ∃ oP, oP = (if 32 = d then 0 else 0 + d * 32) := ⟨_, rfl⟩
        rw [← hoP]
        refine WL.ex rfl rfl rfl (Ex.len Tryd.underlying39 rfl) ?_
        refine qA ?_
        refine qE ?_
        refine WC.block ?_
        refine WC.loop (σ := Nat) (fun k => [(0, .int .i64 (d : Int)), (1, .int .u64 (i : Int)), (6, .pointer (some ⟨ga, 0, none⟩)), (7, .pointer (some ⟨gP, 0, none⟩)), (8, .pointer (some ⟨go, 0, none⟩)), (29, .slice (some ⟨gP, oP, none⟩) (32 - d) (32 - d)), (30, .int .i64 ((32 - d : Nat) : Int)), (31, .int .i64 (k : Int))]) (fun k wr => k ≤ 32 - d ∧ (∀ j, j < k → P[d + j]? = some zH) ∧ Mem w wr nof [blk go (bytesV (List.replicate 32 0)) 31, blk gP (prfC (P)) 34, blk ga (bytesV a) 31]) (fun k => 32 - d - k) (0) ?_ (.cons rfl (.cons rfl (.cons rfl (.cons rfl (.cons rfl (.cons rfl (.cons rfl (.cons rfl (.nil))))))))) ?_
        · exact ⟨by omega, by simp, M3⟩
        rintro k w32 ⟨hk, hz0, M32⟩
        refine qD ?_
        refine WL.ex rfl rfl rfl (Ex.lss rfl rfl) ?_
        refine qE ?_
        refine WC.seq ?_
        refine WC.cond_dec rfl (fun hc32 => ?_) (fun hc32 => ?_)
        · obtain ⟨x, hxk⟩ : ∃ x, P[d + k]? = some x := ⟨_, List.getElem?_eq_getElem (by omega)⟩
          have hxm := List.mem_of_getElem? hxk
          have hx32 : H32 x := hPm x hxm
          have hoP2 : oP = d * 32 := by rw [hoP, if_neg (by omega)]; omega
          refine WC.skip ?_
          refine WX.next ?_
          refine WC.seq ?_
          refine WC.block ?_
          refine qD ?_
          refine WL.ex rfl rfl rfl (Ex.ia Tryd.underlying39 sz31 rfl rfl ⟨by omega, by omega⟩) ?_
          refine WL.ex rfl rfl rfl (Ex.loadA ty31 rfl (l := bytesV x) (h32_len hx32) (M32.rdt (i := 1) rfl (flat_at (i := d + k) (fun a ha => h32_len (hPm a ha)) hxk (by simp only [Int.toNat_natCast]; omega)))) ?_
          refine WL.ac rfl rfl rfl (Ac.alloc M32 (l := bytesV (List.replicate 32 0)) (by kernel_rfl)) ?_; rintro v36 w36 ⟨gx, rfl, hg36, K36, M36⟩
          refine WL.ac0 rfl rfl (Ac.stA M36 ty31 rfl rfl rfl (h32_len (by first | assumption | exact h32_0)) (bytesV_one _) (i := 0) rfl (by first | (rw [h32_len (by first | assumption | exact h32_0), h32_len (by first | assumption | exact h32_0)]; decide) | (rw [h32_len (by first | assumption | exact h32_0)]; decide) | rw [h32_len (by first | assumption | exact h32_0)])) ?_; rintro v37 w37 ⟨K37, M37⟩
          try dsimp only [List.set] at M37
          rw [splice_all _ _ (by first | rw [h32_len (by first | assumption | exact h32_0), h32_len (by first | assumption | exact h32_0)] | rw [h32_len (by first | assumption | exact h32_0)])] at M37
          refine qE ?_
          refine qD ?_
          refine WL.ex rfl rfl rfl (Ex.loadA ty31 rfl (h32_len (by first | assumption | exact h32_0)) (M37.rdw (i := 0) rfl)) ?_
          refine WL.ex rfl rfl rfl (Ex.bld bd31 (parts := []) (l := bytesV (List.replicate 32 0)) rfl rfl rfl rfl) ?_
          refine WL.ex rfl rfl rfl (Ex.neA rfl rfl (eqHash w hx32 h32_0)) ?_
          refine qE ?_
          refine WC.cond rfl (fun h5 => ?_) (fun h5 => ?_)
          · have hxn : x ≠ zH := fun h => by rw [decide_eq_true (show x = List.replicate 32 0 from h)] at h5; cases h5
            have hcl := climb_6 (a := a) hd h4 (List.mem_of_getElem? (by rw [List.getElem?_drop]; exact hxk)) hxn
            refine qD ?_
            refine WL.ex rfl rfl rfl (Ex.bld bd31 (parts := []) (l := bytesV (List.replicate 32 0)) rfl rfl rfl rfl) ?_
            refine WL.ac0 rfl rfl (Ac.stA M37 ty31 rfl rfl rfl (h32_len (by first | assumption | exact h32_0)) (bytesV_one _) (i := 1) rfl (by first | (rw [h32_len (by first | assumption | exact h32_0), h32_len (by first | assumption | exact h32_0)]; decide) | (rw [h32_len (by first | assumption | exact h32_0)]; decide) | rw [h32_len (by first | assumption | exact h32_0)])) ?_; rintro v42 w42 ⟨K42, M42⟩
            try dsimp only [List.set] at M42
            rw [splice_all _ _ (by first | rw [h32_len (by first | assumption | exact h32_0), h32_len (by first | assumption | exact h32_0)] | rw [h32_len (by first | assumption | exact h32_0)])] at M42
            refine qB ?_
            refine qE ?_
            refine WC.ret ?_
            refine WX.ret_block (WX.ret_then (WX.ret_then (WX.ret_block (WX.ret_then (?_)))))
            refine WX.retn rfl (.cell rfl (run_loadVarA ty31 (h32_len (by first | assumption | exact h32_0)) (M42.rdw (i := 1) rfl)) (.tmp rfl .nil)) rfl ?_
            rw [hcl]
            exact ⟨rfl, M42.keep⟩
          · have hxz : x = zH := Decidable.byContradiction fun h => by rw [decide_eq_false (show ¬ x = List.replicate 32 0 from h)] at h5; cases h5
            refine WC.skip ?_
            refine WX.normal_block (WX.next (?_))
            refine WC.region ?_
            refine WL.ex rfl rfl rfl (Ex.add rfl rfl (i64w _ (by omega) (by omega))) ?_
            refine qA ?_
            refine WL.nil ?_
            refine WX.again (k + 1) ?_ ?_ (.cons rfl (.cons rfl (.cons rfl (.cons rfl (.cons rfl (.cons rfl (.cons rfl (.cons rfl (.nil)))))))))
            · (try dsimp only); omega
            · refine ⟨by omega, fun j hj => ?_, (Mem.sub M37 (.cons _ (.refl _)))⟩
              rcases Nat.lt_succ_iff_lt_or_eq.1 hj with h | h
              · exact hz0 j h
              · subst h; rw [hxk, hxz]
        · have hall : ∀ x ∈ P.drop d, x = zH := by
            intro x hx
            obtain ⟨j, hj⟩ := List.getElem?_of_mem hx
            rw [List.getElem?_drop] at hj
            have hjl := (List.getElem?_eq_some_iff.1 hj).1
            have := hz0 j (by omega)
            rw [hj] at this
            exact Option.some.inj this
          have hcl := climb_0 (a := a) hd h4 hall
          refine WC.exit ?_
          refine WX.exit_then (WX.exit_then (WX.exit_block (WX.next (?_))))
          refine WC.seq ?_
          refine qD ?_
          refine qA ?_
          refine WL.ex rfl rfl rfl (Ex.slAh Tryd.underlying34 sz31 rfl rfl (Int.natCast_nonneg _) (by omega)) ?_
          rw [Int.toNat_natCast]
          refine WL.ex rfl rfl rfl (Ex.len Tryd.underlying39 rfl) ?_
          refine qA ?_
          refine qE ?_
          refine WC.block ?_
          refine WC.loop (σ := Nat) (fun k => [(1, .int .u64 (i : Int)), (6, .pointer (some ⟨ga, 0, none⟩)), (8, .pointer (some ⟨go, 0, none⟩)), (41, .slice (some ⟨gP, 0, none⟩) d 32), (42, .int .i64 (d : Int)), (43, .int .i64 (k : Int))]) (fun k wr => k ≤ d ∧ Mem w wr nof [blk go (bytesV (List.replicate 32 0)) 31, blk gP (prfC (P)) 34, blk ga (bytesV (clB P i a k)) 31]) (fun k => d - k) (0) ?_ (.cons rfl (.cons rfl (.cons rfl (.cons rfl (.cons rfl (.cons rfl (.nil))))))) ?_
          · exact ⟨by omega, M32⟩
          rintro k w50 ⟨hk, M50⟩
          refine qD ?_
          refine WL.ex rfl rfl rfl (Ex.lss rfl rfl) ?_
          refine qE ?_
          refine WC.seq ?_
          refine WC.cond_dec rfl (fun hc44 => ?_) (fun hc44 => ?_)
          · obtain ⟨x, hxk⟩ : ∃ x, P[k]? = some x := ⟨_, List.getElem?_eq_getElem (by omega)⟩
            have hx32 : H32 x := hPm x (List.mem_of_getElem? hxk)
            have hc32 := clB32 (P := P) (i := i) ha k
            have hgx : P.getD k [] = x := by rw [List.getD, hxk]; rfl
            have hdv := Nat.div_le_self i (2 ^ k)
            refine WC.skip ?_
            refine WX.next ?_
            refine WC.seq ?_
            refine WC.block ?_
            refine qD ?_
            refine qA ?_
            refine WL.ex rfl rfl rfl (Ex.ia Tryd.underlying39 sz31 rfl rfl ⟨by omega, by omega⟩) ?_
            refine WL.ex rfl rfl rfl (Ex.loadA ty31 rfl (l := bytesV x) (h32_len hx32) (M50.rdt (i := 1) rfl (flat_at (i := k) (fun a ha => h32_len (hPm a ha)) hxk (by simp)))) ?_
            refine WL.ac rfl rfl rfl (Ac.alloc M50 (l := bytesV (List.replicate 32 0)) (by kernel_rfl)) ?_; rintro v55 w55 ⟨gy, rfl, hg55, K55, M55⟩
            refine qB ?_
            refine WL.ac0 rfl rfl (Ac.stA M55 ty31 rfl rfl rfl (h32_len (by first | assumption | exact h32_0)) (bytesV_one _) (i := 0) rfl (by first | (rw [h32_len (by first | assumption | exact h32_0), h32_len (by first | assumption | exact h32_0)]; decide) | (rw [h32_len (by first | assumption | exact h32_0)]; decide) | rw [h32_len (by first | assumption | exact h32_0)])) ?_; rintro v57 w57 ⟨K57, M57⟩
            try dsimp only [List.set] at M57
            rw [splice_all _ _ (by first | rw [h32_len (by first | assumption | exact h32_0), h32_len (by first | assumption | exact h32_0)] | rw [h32_len (by first | assumption | exact h32_0)])] at M57
            refine qE ?_
            refine qD ?_
            refine qA ?_
            refine qA ?_
            refine WL.ex rfl rfl rfl (Ex.shr rfl rfl (m := k) rfl (c := ((i / 2 ^ k : Nat) : Int)) (shrN _ _ _ (by simp [IntKind.bits]; omega))) ?_
            refine WL.ex rfl rfl rfl (Ex.rem rfl rfl (by decide) (c := ((i / 2 ^ k % 2 : Nat) : Int)) (tmodT _ 2)) ?_
            refine WL.ex rfl rfl rfl (Ex.eqI rfl rfl) ?_
            refine qE ?_
            refine WC.cond_dec rfl (fun h52 => ?_) (fun h52 => ?_)
            · have h53 : i / 2 ^ k % 2 = 0 := by exact_mod_cast h52
              have hcs : clB P i a (k + 1) = dNode (clB P i a k) x := by rw [clB, if_pos h53, hgx]
              have hs32 := dNode_len (clB P i a k) x
              refine WC.region ?_
              refine WL.ex rfl rfl rfl (Ex.loadA ty31 rfl (h32_len (by first | assumption | exact h32_0)) (M57.rdw (i := 3) rfl)) ?_
              refine WL.ex rfl rfl rfl (Ex.loadA ty31 rfl (h32_len (by first | assumption | exact h32_0)) (M57.rdw (i := 0) rfl)) ?_
              refine WL.ac rfl rfl rfl (Ac.call rfl Tryd.func74 nm74 rfl (node_ok w57 _ _ hc32 hx32 (hT.keep M57.keep))) ?_; rintro v65 w65 ⟨rfl, K65⟩
              have M65 := M57.step K65
              refine WL.ac0 rfl rfl (Ac.stA M65 ty31 rfl rfl rfl (h32_len (by first | assumption | exact h32_0)) (bytesV_one _) (i := 3) rfl (by first | (rw [h32_len (by first | assumption | exact h32_0), h32_len (by first | assumption | exact h32_0)]; decide) | (rw [h32_len (by first | assumption | exact h32_0)]; decide) | rw [h32_len (by first | assumption | exact h32_0)])) ?_; rintro v66 w66 ⟨K66, M66⟩
              try dsimp only [List.set] at M66
              rw [splice_all _ _ (by first | rw [h32_len (by first | assumption | exact h32_0), h32_len (by first | assumption | exact h32_0)] | rw [h32_len (by first | assumption | exact h32_0)])] at M66
              refine WL.nil ?_
              refine WX.normal_block (WX.next (?_))
              refine WC.region ?_
              refine WL.ex rfl rfl rfl (Ex.add rfl rfl (i64w _ (by omega) (by omega))) ?_
              refine qA ?_
              refine WL.nil ?_
              refine WX.again (k + 1) ?_ ?_ (.cons rfl (.cons rfl (.cons rfl (.cons rfl (.cons rfl (.cons rfl (.nil)))))))
              · (try dsimp only); omega
              · refine ⟨by omega, ?_⟩
                rw [hcs]
                exact (Mem.sub M66 (.cons _ (.refl _)))
            · have h53 : ¬ i / 2 ^ k % 2 = 0 := fun h => h52 (by exact_mod_cast h)
              have hcs : clB P i a (k + 1) = dNode x (clB P i a k) := by rw [clB, if_neg h53, hgx]
              have hs32 := dNode_len x (clB P i a k)
              refine WC.region ?_
              refine WL.ex rfl rfl rfl (Ex.loadA ty31 rfl (h32_len (by first | assumption | exact h32_0)) (M57.rdw (i := 0) rfl)) ?_
              refine WL.ex rfl rfl rfl (Ex.loadA ty31 rfl (h32_len (by first | assumption | exact h32_0)) (M57.rdw (i := 3) rfl)) ?_
              refine WL.ac rfl rfl rfl (Ac.call rfl Tryd.func74 nm74 rfl (node_ok w57 _ _ hx32 hc32 (hT.keep M57.keep))) ?_; rintro v71 w71 ⟨rfl, K71⟩
              have M71 := M57.step K71
              refine WL.ac0 rfl rfl (Ac.stA M71 ty31 rfl rfl rfl (h32_len (by first | assumption | exact h32_0)) (bytesV_one _) (i := 3) rfl (by first | (rw [h32_len (by first | assumption | exact h32_0), h32_len (by first | assumption | exact h32_0)]; decide) | (rw [h32_len (by first | assumption | exact h32_0)]; decide) | rw [h32_len (by first | assumption | exact h32_0)])) ?_; rintro v72 w72 ⟨K72, M72⟩
              try dsimp only [List.set] at M72
              rw [splice_all _ _ (by first | rw [h32_len (by first | assumption | exact h32_0), h32_len (by first | assumption | exact h32_0)] | rw [h32_len (by first | assumption | exact h32_0)])] at M72
              refine WL.nil ?_
              refine WX.normal_block (WX.next (?_))
              refine WC.region ?_
              refine WL.ex rfl rfl rfl (Ex.add rfl rfl (i64w _ (by omega) (by omega))) ?_
              refine qA ?_
              refine WL.nil ?_
              refine WX.again (k + 1) ?_ ?_ (.cons rfl (.cons rfl (.cons rfl (.cons rfl (.cons rfl (.cons rfl (.nil)))))))
              · (try dsimp only); omega
              · refine ⟨by omega, ?_⟩
                rw [hcs]
                exact (Mem.sub M72 (.cons _ (.refl _)))
          · obtain rfl : d = k := by omega
            have hc32 := clB32 (P := P) (i := i) ha d
            refine WC.exit ?_
            refine WX.exit_then (WX.exit_then (WX.exit_block (WX.next (?_))))
            refine qD ?_
            refine WL.ex rfl rfl rfl (Ex.loadA ty31 rfl (h32_len (by first | assumption | exact h32_0)) (M50.rdw (i := 2) rfl)) ?_
            refine WL.ac0 rfl rfl (Ac.stA M50 ty31 rfl rfl rfl (h32_len (by first | assumption | exact h32_0)) (bytesV_one _) (i := 0) rfl (by first | (rw [h32_len (by first | assumption | exact h32_0), h32_len (by first | assumption | exact h32_0)]; decide) | (rw [h32_len (by first | assumption | exact h32_0)]; decide) | rw [h32_len (by first | assumption | exact h32_0)])) ?_; rintro v76 w76 ⟨K76, M76⟩
            try dsimp only [List.set] at M76
            rw [splice_all _ _ (by first | rw [h32_len (by first | assumption | exact h32_0), h32_len (by first | assumption | exact h32_0)] | rw [h32_len (by first | assumption | exact h32_0)])] at M76
            refine qB ?_
            refine qE ?_
            refine WC.ret ?_
            refine WX.retn rfl (.cell rfl (run_loadVarA ty31 (h32_len (by first | assumption | exact h32_0)) (M76.rdw (i := 0) rfl)) (.tmp rfl .nil)) rfl ?_
            rw [hcl]
            exact ⟨rfl, M76.keep⟩

theorem climb_32 {z : Int} {i : Nat} {a : List UInt8} {P : Hs} (ha : H32 a) : H32 (climbR z i a P).1 := by
  unfold climbR
  split
  · exact h32_0
  · split
    · exact h32_0
    · split
      · exact clB32 ha _
      · exact h32_0
/-- What is told of a check. -/
def checkR (z : Int) (r : List UInt8) (n i : Nat) (a : List UInt8) (P : Hs) : Int :=
  if (climbR z i a P).2 ≠ 0 then (climbR z i a P).2 else if n ≤ i then 10 else if (climbR z i a P).1 ≠ r then 14 else 0

/- sponsion/proof.Check -/
theorem check_ok (w : World) (z : Int) (r : List UInt8) (n i : Nat) (a : List UInt8) (P : Hs) (hr : H32 r) (hi : i < 18446744073709551616) (ha : H32 a) (hP : PrfOk P) (hT : Tabs w) :
    Gives Tryd.prog 26 #[.int .i64 z, .agg (bytesV r).toArray, .int .u64 (n : Int), .int .u64 (i : Int), .agg (bytesV a).toArray, .agg (prfC P).toArray] w fun u w1 => u = .int .i64 (checkR z r n i a P) ∧ Keep nof w w1 := by
  have M0 := Mem.start w nof
  have hc32 := climb_32 (z := z) (i := i) (P := P) ha
  refine Gives.enter (n := 35) Tryd.func26 rfl Tryd.ntmps26 rfl (env := [(0, .int .i64 z), (1, .agg (bytesV r).toArray), (2, .int .u64 (n : Int)), (3, .int .u64 (i : Int)), (4, .agg (bytesV a).toArray), (5, .agg (prfC P).toArray)]) rfl ?_
  refine qD ?_
  refine WL.ac rfl rfl rfl (Ac.box M0 rfl rfl) ?_; rintro v1 w1 ⟨gr, rfl, hg1, K1, M1⟩
  refine WL.ac rfl rfl rfl (Ac.box M1 rfl rfl) ?_; rintro v2 w2 ⟨ga, rfl, hg2, K2, M2⟩
  refine WL.ac rfl rfl rfl (Ac.box M2 rfl rfl) ?_; rintro v3 w3 ⟨gP, rfl, hg3, K3, M3⟩
  refine qB ?_
  refine qE ?_
  refine qD ?_
  refine qA ?_
  refine qA ?_
  refine WL.ex rfl rfl rfl (Ex.loadA ty31 rfl (h32_len (by first | assumption | exact h32_0)) (M3.rdw (i := 1) rfl)) ?_
  refine WL.ex rfl rfl rfl (Ex.loadA ty34 rfl (prf_len (by first | assumption | exact prf0_ok)) (M3.rdw (i := 0) rfl)) ?_
  refine WL.ac rfl rfl rfl (Ac.call rfl Tryd.func55 nm55 rfl (climb_ok w3 z i a P hi ha hP (hT.keep M3.keep))) ?_; rintro v9 w9 ⟨rfl, K9⟩
  have M9 := M3.step K9
  refine qA ?_
  refine WL.ex rfl rfl rfl (Ex.ext rfl rfl) ?_
  refine WL.ex rfl rfl rfl (Ex.ext rfl rfl) ?_
  refine WL.ac rfl rfl rfl (Ac.alloc M9 (l := bytesV (List.replicate 32 0)) (by kernel_rfl)) ?_; rintro v13 w13 ⟨gh, rfl, hg13, K13, M13⟩
  refine WL.ac0 rfl rfl (Ac.stA M13 ty31 rfl rfl rfl (h32_len (by first | assumption | exact h32_0)) (bytesV_one _) (i := 0) rfl (by first | (rw [h32_len (by first | assumption | exact h32_0), h32_len (by first | assumption | exact h32_0)]; decide) | (rw [h32_len (by first | assumption | exact h32_0)]; decide) | rw [h32_len (by first | assumption | exact h32_0)])) ?_; rintro v14 w14 ⟨K14, M14⟩
  try dsimp only [List.set] at M14
  rw [splice_all _ _ (by first | rw [h32_len (by first | assumption | exact h32_0), h32_len (by first | assumption | exact h32_0)] | rw [h32_len (by first | assumption | exact h32_0)])] at M14
  refine qB ?_
  refine qE ?_
  refine WC.seq ?_
  refine WC.block ?_
  refine qD ?_
  refine qA ?_
  refine WL.ex rfl rfl rfl (Ex.neI rfl rfl) ?_
  rw [show (!decide ((climbR z i a P).2 = 0)) = decide ((climbR z i a P).2 ≠ 0) by simp]
  refine qB ?_
  refine qE ?_
  refine WC.cond_dec rfl (fun h23 => ?_) (fun h23 => ?_)
  · have hck : checkR z r n i a P = (climbR z i a P).2 := if_pos h23
    refine qD ?_
    refine qA ?_
    refine qB ?_
    refine qE ?_
    refine WC.ret ?_
    refine WX.ret_block (WX.ret_then (?_))
    refine WX.ret1 rfl rfl ?_
    rw [hck]
    exact ⟨rfl, M14.keep⟩
  · skip
    refine qD ?_
    refine qA ?_
    refine qA ?_
    refine WL.ex rfl rfl rfl (Ex.geq rfl rfl) ?_
    refine qB ?_
    refine qE ?_
    refine WC.cond_dec rfl (fun h27 => ?_) (fun h27 => ?_)
    · have hck : checkR z r n i a P = 10 := by unfold checkR; rw [if_neg h23, if_pos (by omega)]
      refine qD ?_
      refine qB ?_
      refine qE ?_
      refine WC.ret ?_
      refine WX.ret_block (WX.ret_then (?_))
      refine WX.ret1 rfl rfl ?_
      rw [hck]
      exact ⟨rfl, M14.keep⟩
    · have h28 : ¬ n ≤ i := by omega
      refine qD ?_
      refine WL.ex rfl rfl rfl (Ex.loadA ty31 rfl (h32_len (by first | assumption | exact h32_0)) (M14.rdw (i := 0) rfl)) ?_
      refine WL.ex rfl rfl rfl (Ex.loadA ty31 rfl (h32_len (by first | assumption | exact h32_0)) (M14.rdw (i := 3) rfl)) ?_
      refine WL.ex rfl rfl rfl (Ex.neA rfl rfl (eqHash w hc32 hr)) ?_
      refine qB ?_
      refine qE ?_
      refine WC.cond rfl (fun h31 => ?_) (fun h31 => ?_)
      · have hck : checkR z r n i a P = 14 := by
          unfold checkR
          rw [if_neg h23, if_neg h28, if_pos (fun h => by rw [decide_eq_true h] at h31; cases h31)]
        refine qD ?_
        refine qB ?_
        refine qE ?_
        refine WC.ret ?_
        refine WX.ret_block (WX.ret_then (?_))
        refine WX.ret1 rfl rfl ?_
        rw [hck]
        exact ⟨rfl, M14.keep⟩
      · have hck : checkR z r n i a P = 0 := by
          unfold checkR
          rw [if_neg h23, if_neg h28, if_neg (fun h => by rw [decide_eq_false h] at h31; cases h31)]
        refine WC.skip ?_
        refine WX.normal_block (WX.next (?_))
        refine qD ?_
        refine qB ?_
        refine qE ?_
        refine WC.ret ?_
        refine WX.ret1 rfl rfl ?_
        rw [hck]
        exact ⟨rfl, M14.keep⟩

end Go.Proofs.YtchmjpdkonfifaaDoor
