/- Walks, written by gen.py off the translation's own print: each says what the Go function comes to. -/
import Derived.Test.YtfgikoilgmddhaaDoorWg
set_option linter.unusedVariables false
set_option linter.unusedSimpArgs false
namespace Go.Proofs.YtfgikoilgmddhaaDoor
open Go.Sx Go.RowKit
attribute [local irreducible] Ac Ex WL WC WX WP Gives sha

theorem mk_climb {ls : Hs} {d n i : Nat} {a : List UInt8} (hi : i < n) (hn : n ≤ ls.length) (ha : ls[i]? = some a) (hd : d ≤ 32) : ∀ k, k ≤ d → clB (mkP d ls n i) i a k = nd dNode e0 (ls.take n) k (i / 2 ^ k)
  | 0, _ => by
    show a = nd dNode e0 (ls.take n) 0 (i / 2 ^ 0)
    have h : (ls.take n)[i]? = some a := by rw [List.getElem?_take, if_pos hi]; exact ha
    simp [nd, List.getD, h]
  | k + 1, hk => by
    rw [clB, mk_climb hi hn ha hd k (by omega)]
    have hp : (mkP d ls n i).getD k [] = nd dNode e0 (ls.take n) k ((i / 2 ^ k) ^^^ 1) := by
      rw [mkP, fillTo, List.getD, List.getElem?_map, List.getElem?_range (by omega)]
      simp [show k < d by omega, pF]
    rw [hp, nd, Nat.pow_succ, ← Nat.div_div_eq_div_mul]
    generalize i / 2 ^ k = x
    rcases Nat.mod_two_eq_zero_or_one x with h | h
    · rw [if_pos h, xor1_even h]
      rw [show 2 * (x / 2) = x by omega]
    · rw [if_neg (by omega), xor1_odd h]
      rw [show 2 * (x / 2) + 1 = x by omega, show 2 * (x / 2) = x - 1 by omega]
theorem mk_check {ls : Hs} {d n i : Nat} {a : List UInt8} (hi : i < n) (hn : n ≤ ls.length) (hl : ls.length ≤ 2 ^ d) (ha : ls[i]? = some a) (hd : d ≤ 32) : checkR (d : Int) (nd dNode e0 (ls.take n) d 0) n i a (mkP d ls n i) = 0 := by
  have h0 : i / 2 ^ d = 0 := Nat.div_eq_of_lt (by omega)
  have hz : ∀ x ∈ (mkP d ls n i).drop d, x = zH := by
    intro x hx
    obtain ⟨j, hj⟩ := List.getElem?_of_mem hx
    rw [List.getElem?_drop, mkP, fillTo, List.getElem?_map] at hj
    have hjl : d + j < 32 := by
      rcases Nat.lt_or_ge (d + j) 32 with h | h
      · exact h
      · rw [List.getElem?_eq_none (by simpa using h)] at hj; cases hj
    rw [List.getElem?_range hjl, Option.map_some, if_neg (by omega)] at hj
    exact (Option.some.inj hj).symm
  have hc := climb_0 (a := a) (P := mkP d ls n i) hd h0 hz
  have hm := mk_climb hi hn ha hd d (Nat.le_refl _)
  rw [h0] at hm
  unfold checkR
  rw [hc, hm, if_neg (by simp), if_neg (by omega), if_neg (by simp)]
theorem check_col {ls : Hs} {d n i : Nat} {a b : List UInt8} (hi : i < n) (hn : n ≤ ls.length) (hl : ls.length ≤ 2 ^ d) (ha : ls[i]? = some a) (hd : d ≤ 32) (hab : b ≠ a) (hc : checkR (d : Int) (nd dNode e0 (ls.take n) d 0) n i b (mkP d ls n i) = 0) : colB (mkP d ls n i) (mkP d ls n i) i a b d = true := by
  apply col_of (fun h => hab h.symm)
  have hm := mk_climb hi hn ha hd d (Nat.le_refl _)
  have h0 : i / 2 ^ d = 0 := Nat.div_eq_of_lt (by omega)
  rw [h0] at hm
  rw [hm]
  unfold checkR at hc
  split at hc
  · next h => exact absurd hc h
  · next h =>
    rw [if_neg (by omega)] at hc
    split at hc
    · cases hc
    · next h2 =>
      have h3 : (climbR (d : Int) i b (mkP d ls n i)).1 = nd dNode e0 (ls.take n) d 0 := Decidable.byContradiction h2
      rw [← h3]
      have h4 : (climbR (d : Int) i b (mkP d ls n i)).2 = 0 := Decidable.byContradiction h
      unfold climbR at h4 ⊢
      rw [if_neg (by omega), if_neg (by simpa using h0)] at h4 ⊢
      split at h4
      · next h5 => rw [if_pos h5]; simp
      · cases h4

/- sponsion/sponsionlaw11.ProofStands -/
theorem proofStands_walk (w : World) (x : Nat) (A : Option Addr) (c : Nat) (ls0 : Hs) (n0 : Nat) (o : List UInt8) (hx : x < 256) (hr0 : Rd w A (fl ls0)) (hls0 : ∀ a ∈ ls0, H32 a) (hc : ls0.length ≤ c) (hcm : c ≤ maxLen) (hn0 : n0 < 18446744073709551616) (ho : H32 o) (hT : Tabs w) :
    Gives Tryd.prog 10 #[.int .u8 (x : Int), .slice A ls0.length c, .int .u64 (n0 : Int), .agg (bytesV o).toArray] w fun u w1 => u = .bool true ∧ Keep nof w w1 := by
  have M0 := Mem.start w nof
  obtain ⟨d, hd⟩ : ∃ d, d = x % 33 := ⟨_, rfl⟩
  have hd32 : d ≤ 32 := by omega
  obtain ⟨q, hq⟩ : ∃ q, q = min (min ls0.length 30) (2 ^ d) := ⟨_, rfl⟩
  obtain ⟨ls, hlse⟩ : ∃ ls, ls = ls0.take q := ⟨_, rfl⟩
  have hlq : ls.length = q := by rw [hlse, List.length_take]; omega
  have hls : ∀ a ∈ ls, H32 a := by rw [hlse]; exact take32 hls0 q
  have hr : Rd w A (fl ls) := by rw [hlse, fl_take hls0]; exact hr0.take _
  have hld : ls.length ≤ 2 ^ d := by omega
  have hp2 := pow32 hd32
  obtain ⟨n, hn⟩ : ∃ n, n = n0 % (ls.length + 1) := ⟨_, rfl⟩
  have hnl : n ≤ ls.length := by
    have := Nat.mod_lt n0 (show 0 < ls.length + 1 by omega)
    omega
  have hroot : tNode d ls n (d : Int) 0 = (nd dNode e0 (ls.take n) d 0, true) := tNode_yes hnl (Nat.le_refl _) (Nat.zero_div _) rfl
  have hroot32 := nd32 (take32 hls n) d 0
  refine Gives.enter (n := 99) Tryd.func10 rfl Tryd.ntmps10 rfl (env := [(0, .int .u8 (x : Int)), (1, .slice A ls0.length c), (2, .int .u64 (n0 : Int)), (3, .agg (bytesV o).toArray)]) rfl ?_
  refine WC.seq ?_
  refine WC.region ?_
  refine WL.ac rfl rfl rfl (Ac.box M0 rfl rfl) ?_; rintro v1 w1 ⟨go, rfl, hg1, K1, M1⟩
  refine WL.ex rfl rfl rfl (Ex.asg rfl) ?_
  refine WL.nil ?_
  refine WX.next (?_)
  refine WC.seq ?_
  refine WC.seq ?_
  refine WC.region ?_
  refine WL.ac rfl rfl rfl (Ac.call rfl Tryd.func17 nm17 rfl (lives11_ok w1 (hT.keep M1.keep))) ?_; rintro v3 w3 ⟨rfl, K3⟩
  have M3 := M1.step K3
  refine WL.ex rfl rfl rfl (Ex.not rfl) ?_
  refine WL.nil ?_
  refine WX.next (?_)
  refine WC.no rfl ?_
  refine WC.skip ?_
  refine WX.next (?_)
  refine WC.seq ?_
  refine WC.region ?_
  refine WL.ex rfl rfl rfl (Ex.mv rfl) ?_
  refine WL.ex rfl rfl rfl (Ex.mv rfl) ?_
  refine WL.ac rfl rfl rfl (Ac.call rfl Tryd.func18 nm18 rfl (fit_ok w3 x A c ls0 hx hc hcm)) ?_; rintro v7 w7 ⟨rfl, K7⟩
  rw [← hd, ← hq, ← hlq]
  have M7 := M3.step K7
  refine WL.ex rfl rfl rfl (Ex.mv rfl) ?_
  refine WL.ex rfl rfl rfl (Ex.ext rfl rfl) ?_
  refine WL.ex rfl rfl rfl (Ex.ext rfl rfl) ?_
  refine WL.ex rfl rfl rfl (Ex.asg rfl) ?_
  refine WL.ex rfl rfl rfl (Ex.asg rfl) ?_
  refine WL.nil ?_
  refine WX.next (?_)
  refine WC.seq ?_
  refine WC.region ?_
  refine WL.ex rfl rfl rfl (Ex.mv rfl) ?_
  refine WL.ex rfl rfl rfl (Ex.mv rfl) ?_
  refine WL.ex rfl rfl rfl (Ex.len Tryd.underlying22 rfl) ?_
  refine WL.ex rfl rfl rfl (Ex.add rfl rfl (c := ((ls.length + 1 : Nat) : Int)) (by rw [show (ls.length : Int) + 1 = ((ls.length + 1 : Nat) : Int) by omega]; exact i64w _ (by omega) (by omega))) ?_
  refine WL.ex rfl rfl rfl (Ex.cvI Tryd.underlying3 Tryd.underlying23 rfl (u64w_lt _ (by omega))) ?_
  refine WL.ex rfl rfl rfl (Ex.rem rfl rfl (by omega) (c := ((n : Nat) : Int)) (by rw [hn]; exact tmodT _ _)) ?_
  refine WL.ex rfl rfl rfl (Ex.asg rfl) ?_
  refine WL.nil ?_
  refine WX.next (?_)
  refine WC.seq ?_
  refine WC.region ?_
  refine WL.ex rfl rfl rfl (Ex.mv rfl) ?_
  refine WL.ex rfl rfl rfl (Ex.mv rfl) ?_
  refine WL.ac rfl rfl rfl (Ac.call rfl Tryd.func20 nm20 rfl (made_ok w7 d A c ls hd32 (M7.rd hr) hls hld (by omega) (hT.keep M7.keep))) ?_; rintro v22 w22 ⟨g, gl, ge, vs1, rfl, N22⟩
  have M22 := (M7.new N22).openS
  refine WL.ex rfl rfl rfl (Ex.asg rfl) ?_
  refine WL.nil ?_
  refine WX.next (?_)
  refine WC.seq ?_
  refine WC.region ?_
  refine WL.ex rfl rfl rfl (Ex.mv rfl) ?_
  refine WL.ex rfl rfl rfl (Ex.mv rfl) ?_
  refine WL.ex rfl rfl rfl (Ex.mv rfl) ?_
  refine WL.ac rfl rfl rfl (Ac.call rfl Tryd.func23 nm23 rfl (tNode_ok w22 g gl ge d vs1 ls n (d : Int) 0 (TreeS.of (M22.get (i := 1) rfl) (lvOf_len _ _)) (ES.of (M22.get (i := 0) rfl)) hls (by omega) (by omega) (by decide) hd32 (hT.keep M22.keep))) ?_; rintro v27 w27 ⟨rfl, K27⟩
  rw [hroot]
  dsimp only
  have M27 := M22.step K27
  refine WL.ex rfl rfl rfl (Ex.mv rfl) ?_
  refine WL.ex rfl rfl rfl (Ex.ext rfl rfl) ?_
  refine WL.ex rfl rfl rfl (Ex.ext rfl rfl) ?_
  refine WL.ac rfl rfl rfl (Ac.alloc M27 (l := bytesV (List.replicate 32 0)) (by kernel_rfl)) ?_; rintro v31 w31 ⟨gR, rfl, hg31, K31, M31⟩
  refine WL.ac0 rfl rfl (Ac.stA M31 ty28 rfl rfl rfl (h32_len (by first | assumption | exact h32_0)) (bytesV_one _) (i := 0) rfl (by first | (rw [h32_len (by first | assumption | exact h32_0), h32_len (by first | assumption | exact h32_0)]; decide) | (rw [h32_len (by first | assumption | exact h32_0)]; decide) | rw [h32_len (by first | assumption | exact h32_0)])) ?_; rintro v32 w32 ⟨K32, M32⟩
  try dsimp only [List.set] at M32
  rw [splice_all _ _ (by first | rw [h32_len (by first | assumption | exact h32_0), h32_len (by first | assumption | exact h32_0)] | rw [h32_len (by first | assumption | exact h32_0)])] at M32
  refine WL.ex rfl rfl rfl (Ex.asg rfl) ?_
  refine WL.nil ?_
  refine WX.next (?_)
  refine WC.seq ?_
  refine WC.seq ?_
  refine WC.region ?_
  refine WL.ex rfl rfl rfl (Ex.mv rfl) ?_
  refine WL.ex rfl rfl rfl (Ex.not rfl) ?_
  refine WL.nil ?_
  refine WX.next (?_)
  
  refine WC.no rfl ?_
  refine WC.skip ?_
  refine WX.next (?_)
  refine WC.seq ?_
  refine WC.seq ?_
  refine WC.region ?_
  refine WL.ex rfl rfl rfl (Ex.mv rfl) ?_
  refine WL.ex rfl rfl rfl (Ex.mv rfl) ?_
  refine WL.nil ?_
  refine WX.next (?_)
  refine WC.block ?_
  refine WC.loop (σ := Nat) (fun i => [(2, .int .u64 (n : Int)), (7, .pointer (some ⟨go, 0, none⟩)), (9, .int .i64 (d : Int)), (10, .slice A ls.length c), (11, .pointer (some ⟨g, 0, none⟩)), (12, .pointer (some ⟨gR, 0, none⟩)), (43, .int .u64 (n : Int)), (44, .int .u64 (i : Int))]) (fun i wr => i ≤ n ∧ Mem w wr nof [blk gR (bytesV (nd dNode e0 (ls.take n) d 0)) 28, blk ge (fl (emps dNode e0 (d + 1))) 28, treeR g gl ge d vs1 (lvOf dNode e0 d (ls)), blk go (bytesV (o)) 28]) (fun i => n - i) (0) ?_ (.cons rfl (.cons rfl (.cons rfl (.cons rfl (.cons rfl (.cons rfl (.cons rfl (.cons rfl (.nil))))))))) ?_
  · exact ⟨by omega, M32⟩
  rintro i w38 ⟨hi, M38⟩
  refine WC.seq ?_
  refine WC.region ?_
  refine WL.ex rfl rfl rfl (Ex.lss rfl rfl) ?_
  refine WL.nil ?_
  refine WX.next (?_)
  refine WC.seq ?_
  refine WC.cond_dec rfl (fun hc45 => ?_) (fun hc45 => ?_)
  · obtain ⟨a, ha⟩ : ∃ a, ls[i]? = some a := ⟨_, List.getElem?_eq_getElem (by omega)⟩
    have ha32 : H32 a := hls a (List.mem_of_getElem? ha)
    have hilt : i < n := by omega
    have hmE : mkE ls n i = 0 := by rw [mkE, if_neg (by omega), if_neg (by omega)]
    have hmQ : mkQ d ls n i = mkP d ls n i := if_pos hmE
    have hpo : PrfOk (mkP d ls n i) := fillP_ok hls n i d
    have hck := mk_check hilt hnl hld ha hd32
    obtain ⟨bA, oA, hA, _⟩ := hr.plain (by rw [fl_len hls]; omega)
    subst hA
    refine WC.skip ?_
    refine WX.next (?_)
    refine WC.seq ?_
    refine WC.block ?_
    refine WC.seq ?_
    refine WC.region ?_
    refine WL.ex rfl rfl rfl (Ex.mv rfl) ?_
    refine WL.ex rfl rfl rfl (Ex.asg rfl) ?_
    refine WL.nil ?_
    refine WX.next (?_)
    refine WC.seq ?_
    refine WC.region ?_
    refine WL.ex rfl rfl rfl (Ex.mv rfl) ?_
    refine WL.ex rfl rfl rfl (Ex.mv rfl) ?_
    refine WL.ex rfl rfl rfl (Ex.mv rfl) ?_
    refine WL.ac rfl rfl rfl (Ac.call rfl Tryd.func19 nm19 rfl (pMake_ok w38 g gl ge d vs1 ls n i (TreeS.of (M38.get (i := 2) rfl) (lvOf_len _ _)) (ES.of (M38.get (i := 1) rfl)) hls hld (by omega) (by omega) hd32 (hT.keep M38.keep))) ?_; rintro v45 w45 ⟨rfl, K45⟩
    rw [hmE, hmQ]
    have M45 := M38.step K45
    refine WL.ex rfl rfl rfl (Ex.mv rfl) ?_
    refine WL.ex rfl rfl rfl (Ex.ext rfl rfl) ?_
    refine WL.ex rfl rfl rfl (Ex.ext rfl rfl) ?_
    refine WL.ac rfl rfl rfl (Ac.alloc M45 (l := prfC prf0) (by kernel_rfl)) ?_; rintro v49 w49 ⟨gP, rfl, hg49, K49, M49⟩
    refine WL.ac0 rfl rfl (Ac.stA M49 ty38 rfl rfl rfl (prf_len (by first | assumption | exact prf0_ok)) (prf_one) (i := 0) rfl (by first | (rw [prf_len (by first | assumption | exact prf0_ok), prf_len (by first | assumption | exact prf0_ok)]; decide) | (rw [prf_len (by first | assumption | exact prf0_ok)]; decide) | rw [prf_len (by first | assumption | exact prf0_ok)])) ?_; rintro v50 w50 ⟨K50, M50⟩
    try dsimp only [List.set] at M50
    rw [splice_all _ _ (by first | rw [prf_len (by first | assumption | exact prf0_ok), prf_len (by first | assumption | exact prf0_ok)] | rw [prf_len (by first | assumption | exact prf0_ok)])] at M50
    refine WL.ex rfl rfl rfl (Ex.asg rfl) ?_
    refine WL.nil ?_
    refine WX.next (?_)
    refine WC.seq ?_
    refine WC.seq ?_
    refine WC.draw (Keep nof w50.drew) [12] (.one 0 0 (.one 1 0 (.one 2 0 (.one 3 0 (.one 5 0 (.one 6 0 (.one 7 0 (.one 8 0 (.one 9 0 (.one 4 1 (.one 10 1 (.one 11 1 (.one 12 2 (.one 13 0 (.one 14 0 .nil))))))))))))))) mixed (by kernel_rfl) (by kernel_rfl) (by kernel_rfl) (HQ.then_ (HQ.then_ (HQ.block (HQ.then_ (HQ.then_ (HQ.block (HQ.then_ HQ.body))))))) ?_
    obtain ⟨w52, hw52⟩ : ∃ v, v = w50.drew := ⟨_, rfl⟩
    have D52 : Keep nof w50 w52 := by rw [hw52]; exact Keep.drew _ _
    have M52 := M50.step D52
    rw [← hw52]; clear hw52
    refine WP.p rfl rfl rfl rfl (fun _ => Ex.mv rfl) ?_
    refine WP.p rfl rfl rfl rfl (fun _ => Ex.neI rfl rfl) ?_
    rw [show (!decide ((0 : Int) = 0)) = false from rfl]
    refine WP.p rfl rfl rfl rfl (fun _ => Ex.mv rfl) ?_
    refine WP.py rfl rfl rfl rfl rfl rfl (fun _ => Ex.mv rfl) ?_
    refine WP.py rfl rfl rfl rfl rfl rfl (fun _ => Ex.mv rfl) ?_
    refine WP.py rfl rfl rfl rfl rfl rfl (fun _ => Ex.mv rfl) ?_
    refine WP.py rfl rfl rfl rfl rfl rfl (fun _ => Ex.mv rfl) ?_
    refine WP.py rfl rfl rfl rfl rfl rfl (fun _ => Ex.mv rfl) ?_
    refine WP.py rfl rfl rfl rfl rfl rfl (fun _ => Ex.ia Tryd.underlying22 sz28 rfl rfl ⟨by omega, by omega⟩) ?_
    refine WP.qy (Keep.refl _ _) rfl rfl rfl rfl rfl rfl (fun w' hS => Ex.loadA ty28 rfl (h32_len (by first | assumption | exact h32_0)) ((M52.rdw (i := 1) rfl).keep0 hS)) ?_
    refine WP.qy (Keep.refl _ _) rfl rfl rfl rfl rfl rfl (fun w' hS => Ex.loadA ty28 rfl (l := bytesV a) (h32_len ha32) (fl_at (((M52.rd hr)).keep0 hS) hls ha (by simp only [Int.toNat_natCast]))) ?_
    refine WP.qy (Keep.refl _ _) rfl rfl rfl rfl rfl rfl (fun w' hS => Ex.loadA ty38 rfl (prf_len (by first | assumption | exact prf0_ok)) ((M52.rdw (i := 0) rfl).keep0 hS)) ?_
    refine WP.ay rfl rfl rfl rfl rfl rfl (Ac.call rfl Tryd.func33 nm33 rfl (check_ok w52 (d : Int) (nd dNode e0 (ls.take n) d 0) n i a (mkP d ls n i) hroot32 (by omega) ha32 hpo (hT.keep M52.keep))) ?_; rintro v65 w65 ⟨rfl, K65⟩; refine .inl ⟨rfl, Keep nof w65, ?_⟩
    rw [hck]
    have M65 := M52.step K65
    refine WP.py rfl rfl rfl rfl rfl rfl (fun _ => Ex.neI rfl rfl) ?_
    rw [show (!decide ((0 : Int) = 0)) = false from rfl]
    refine WP.p rfl rfl rfl rfl (fun _ => Ex.pickF rfl rfl) ?_
    refine WP.nil ?_
    refine WX.next (?_)
    refine WC.no rfl ?_
    refine WC.skip ?_
    refine WX.next (?_)
    refine WC.seq ?_
    refine WC.draw (Keep nof w65.drew) [] (.one 1 0 (.one 2 0 (.one 3 0 (.one 0 1 (.one 4 1 (.one 5 0 (.one 6 0 (.one 7 0 (.one 9 0 (.one 10 0 (.one 8 1 (.one 11 1 (.one 12 1 (.one 13 2 (.one 14 0 (.one 15 0 (.one 16 0 (.one 17 0 (.one 18 0 (.one 19 0 (.one 20 0 (.one 21 0 (.one 22 1 (.one 23 1 (.one 24 1 (.one 25 1 (.one 26 2 (.one 27 0 (.one 28 0 .nil))))))))))))))))))))))))))))) mixed (by kernel_rfl) (by kernel_rfl) (by kernel_rfl) (HQ.then_ (HQ.block (HQ.then_ (HQ.then_ (HQ.block (HQ.then_ HQ.body)))))) ?_
    obtain ⟨w68, hw68⟩ : ∃ v, v = w65.drew := ⟨_, rfl⟩
    have D68 : Keep nof w65 w68 := by rw [hw68]; exact Keep.drew _ _
    have M68 := M65.step D68
    rw [← hw68]; clear hw68
    refine WP.p rfl rfl rfl rfl (fun _ => Ex.mv rfl) ?_
    refine WP.p rfl rfl rfl rfl (fun _ => Ex.mv rfl) ?_
    refine WP.p rfl rfl rfl rfl (fun _ => Ex.ia Tryd.underlying22 sz28 rfl rfl ⟨by omega, by omega⟩) ?_
    refine WP.q (Keep.refl _ _) rfl rfl rfl rfl (fun w' hS => Ex.loadA ty28 rfl (h32_len (by first | assumption | exact h32_0)) ((M68.rdw (i := 4) rfl).keep0 hS)) ?_
    refine WP.q (Keep.refl _ _) rfl rfl rfl rfl (fun w' hS => Ex.loadA ty28 rfl (l := bytesV a) (h32_len ha32) (fl_at (((M68.rd hr)).keep0 hS) hls ha (by simp only [Int.toNat_natCast]))) ?_
    refine WP.p rfl rfl rfl rfl (fun _ => Ex.neA rfl rfl (eqHash w ho ha32)) ?_
    refine WP.p rfl rfl rfl rfl (fun _ => Ex.mv rfl) ?_
    by_cases hoa : ¬ o = a
    · rw [decide_eq_false hoa]
      refine WP.py rfl rfl rfl rfl rfl rfl (fun _ => Ex.mv rfl) ?_
      refine WP.py rfl rfl rfl rfl rfl rfl (fun _ => Ex.mv rfl) ?_
      refine WP.py rfl rfl rfl rfl rfl rfl (fun _ => Ex.mv rfl) ?_
      refine WP.qy (Keep.refl _ _) rfl rfl rfl rfl rfl rfl (fun w' hS => Ex.loadA ty28 rfl (h32_len (by first | assumption | exact h32_0)) ((M68.rdw (i := 1) rfl).keep0 hS)) ?_
      refine WP.qy (Keep.refl _ _) rfl rfl rfl rfl rfl rfl (fun w' hS => Ex.loadA ty28 rfl (h32_len (by first | assumption | exact h32_0)) ((M68.rdw (i := 4) rfl).keep0 hS)) ?_
      refine WP.qy (Keep.refl _ _) rfl rfl rfl rfl rfl rfl (fun w' hS => Ex.loadA ty38 rfl (prf_len (by first | assumption | exact prf0_ok)) ((M68.rdw (i := 0) rfl).keep0 hS)) ?_
      refine WP.ays rfl rfl rfl rfl rfl rfl (Ac.call rfl Tryd.func33 nm33 rfl (check_ok w68 (d : Int) (nd dNode e0 (ls.take n) d 0) n i o (mkP d ls n i) hroot32 (by omega) ho hpo (hT.keep M68.keep))) ?_; rintro v82 w82 ⟨rfl, K82⟩
      refine ⟨Keep nof w82, fun u h => K82.trans h, Keep.refl _ _, ?_⟩
      have M82 := M68.step K82
      refine WP.py rfl rfl rfl rfl rfl rfl (fun _ => Ex.eqI rfl rfl) ?_
      by_cases hc0 : checkR (d : Int) (nd dNode e0 (ls.take n) d 0) n i o (mkP d ls n i) = 0
      · rw [decide_eq_true hc0]
        refine WP.p rfl rfl rfl rfl (fun _ => Ex.pickT rfl rfl) ?_
        refine WP.p rfl rfl rfl rfl (fun _ => Ex.mv rfl) ?_
        refine WP.py rfl rfl rfl rfl rfl rfl (fun _ => Ex.mv rfl) ?_
        refine WP.py rfl rfl rfl rfl rfl rfl (fun _ => Ex.mv rfl) ?_
        refine WP.py rfl rfl rfl rfl rfl rfl (fun _ => Ex.mv rfl) ?_
        refine WP.py rfl rfl rfl rfl rfl rfl (fun _ => Ex.mv rfl) ?_
        refine WP.py rfl rfl rfl rfl rfl rfl (fun _ => Ex.ia Tryd.underlying22 sz28 rfl rfl ⟨by omega, by omega⟩) ?_
        refine WP.qy (Keep.refl _ _) rfl rfl rfl rfl rfl rfl (fun w' hS => Ex.loadA ty28 rfl (l := bytesV a) (h32_len ha32) (fl_at (((M82.rd hr)).keep0 hS) hls ha (by simp only [Int.toNat_natCast]))) ?_
        refine WP.qy (Keep.refl _ _) rfl rfl rfl rfl rfl rfl (fun w' hS => Ex.loadA ty38 rfl (prf_len (by first | assumption | exact prf0_ok)) ((M82.rdw (i := 0) rfl).keep0 hS)) ?_
        refine WP.qy (Keep.refl _ _) rfl rfl rfl rfl rfl rfl (fun w' hS => Ex.loadA ty28 rfl (h32_len (by first | assumption | exact h32_0)) ((M82.rdw (i := 4) rfl).keep0 hS)) ?_
        refine WP.qy (Keep.refl _ _) rfl rfl rfl rfl rfl rfl (fun w' hS => Ex.loadA ty38 rfl (prf_len (by first | assumption | exact prf0_ok)) ((M82.rdw (i := 0) rfl).keep0 hS)) ?_
        refine WP.ays rfl rfl rfl rfl rfl rfl (Ac.call rfl Tryd.func27 nm27 rfl (collides_ok w82 d i a (mkP d ls n i) o (mkP d ls n i) hd32 (by omega) ha32 hpo ho hpo (hT.keep M82.keep))) ?_; rintro v95 w95 ⟨rfl, K95⟩
        refine ⟨Keep nof w95, fun u h => K95.trans h, Keep.refl _ _, ?_⟩
        rw [check_col hilt hnl hld ha hd32 hoa hc0]
        have M95 := M82.step K95
        refine WP.py rfl rfl rfl rfl rfl rfl (fun _ => Ex.not rfl) ?_
        refine WP.p rfl rfl rfl rfl (fun _ => Ex.pickT rfl rfl) ?_
        refine WP.nil ?_
        refine WX.next (?_)
        refine WC.no rfl ?_
        refine WC.skip ?_
        refine WX.normal_block (WX.next (?_))
        refine WC.region ?_
        refine WL.ex rfl rfl rfl (Ex.add rfl rfl (c := ((i + 1 : Nat) : Int)) (by rw [show (i : Int) + 1 = ((i + 1 : Nat) : Int) by omega]; exact u64w_lt _ (by omega))) ?_
        refine WL.ex rfl rfl rfl (Ex.mv rfl) ?_
        refine WL.nil ?_
        refine WX.again (i + 1) ?_ ?_ (.cons rfl (.cons rfl (.cons rfl (.cons rfl (.cons rfl (.cons rfl (.cons rfl (.cons rfl (.nil)))))))))
        · (try dsimp only); omega
        · exact ⟨by omega, (Mem.sub M95 (.cons _ (.refl _)))⟩
      · rw [decide_eq_false hc0]
        refine WP.p rfl rfl rfl rfl (fun _ => Ex.pickT rfl rfl) ?_
        refine WP.p rfl rfl rfl rfl (fun _ => Ex.mv rfl) ?_
        refine WP.no rfl rfl rfl rfl rfl rfl rfl ?_
        refine WP.no rfl rfl rfl rfl rfl rfl rfl ?_
        refine WP.no rfl rfl rfl rfl rfl rfl rfl ?_
        refine WP.no rfl rfl rfl rfl rfl rfl rfl ?_
        refine WP.no rfl rfl rfl rfl rfl rfl rfl ?_
        refine WP.no1 (Keep.refl _ _) rfl rfl rfl rfl rfl rfl rfl ?_
        refine WP.no1 (Keep.refl _ _) rfl rfl rfl rfl rfl rfl rfl ?_
        refine WP.no1 (Keep.refl _ _) rfl rfl rfl rfl rfl rfl rfl ?_
        refine WP.no1 (Keep.refl _ _) rfl rfl rfl rfl rfl rfl rfl ?_
        refine WP.no2 rfl rfl rfl rfl rfl rfl rfl ?_
        refine WP.no rfl rfl rfl rfl rfl rfl rfl ?_
        refine WP.p rfl rfl rfl rfl (fun _ => Ex.pickF rfl rfl) ?_
        refine WP.nil ?_
        refine WX.next (?_)
        refine WC.no rfl ?_
        refine WC.skip ?_
        refine WX.normal_block (WX.next (?_))
        refine WC.region ?_
        refine WL.ex rfl rfl rfl (Ex.add rfl rfl (c := ((i + 1 : Nat) : Int)) (by rw [show (i : Int) + 1 = ((i + 1 : Nat) : Int) by omega]; exact u64w_lt _ (by omega))) ?_
        refine WL.ex rfl rfl rfl (Ex.mv rfl) ?_
        refine WL.nil ?_
        refine WX.again (i + 1) ?_ ?_ (.cons rfl (.cons rfl (.cons rfl (.cons rfl (.cons rfl (.cons rfl (.cons rfl (.cons rfl (.nil)))))))))
        · (try dsimp only); omega
        · exact ⟨by omega, (Mem.sub M82 (.cons _ (.refl _)))⟩
    · rw [decide_eq_true (Decidable.not_not.1 hoa)]
      refine WP.no rfl rfl rfl rfl rfl rfl rfl ?_
      refine WP.no rfl rfl rfl rfl rfl rfl rfl ?_
      refine WP.no rfl rfl rfl rfl rfl rfl rfl ?_
      refine WP.no1 (Keep.refl _ _) rfl rfl rfl rfl rfl rfl rfl ?_
      refine WP.no1 (Keep.refl _ _) rfl rfl rfl rfl rfl rfl rfl ?_
      refine WP.no1 (Keep.refl _ _) rfl rfl rfl rfl rfl rfl rfl ?_
      refine WP.no2 rfl rfl rfl rfl rfl rfl rfl ?_
      refine WP.no rfl rfl rfl rfl rfl rfl rfl ?_
      refine WP.p rfl rfl rfl rfl (fun _ => Ex.pickF rfl rfl) ?_
      refine WP.p rfl rfl rfl rfl (fun _ => Ex.mv rfl) ?_
      refine WP.no rfl rfl rfl rfl rfl rfl rfl ?_
      refine WP.no rfl rfl rfl rfl rfl rfl rfl ?_
      refine WP.no rfl rfl rfl rfl rfl rfl rfl ?_
      refine WP.no rfl rfl rfl rfl rfl rfl rfl ?_
      refine WP.no rfl rfl rfl rfl rfl rfl rfl ?_
      refine WP.no1 (Keep.refl _ _) rfl rfl rfl rfl rfl rfl rfl ?_
      refine WP.no1 (Keep.refl _ _) rfl rfl rfl rfl rfl rfl rfl ?_
      refine WP.no1 (Keep.refl _ _) rfl rfl rfl rfl rfl rfl rfl ?_
      refine WP.no1 (Keep.refl _ _) rfl rfl rfl rfl rfl rfl rfl ?_
      refine WP.no2 rfl rfl rfl rfl rfl rfl rfl ?_
      refine WP.no rfl rfl rfl rfl rfl rfl rfl ?_
      refine WP.p rfl rfl rfl rfl (fun _ => Ex.pickF rfl rfl) ?_
      refine WP.nil ?_
      refine WX.next (?_)
      refine WC.no rfl ?_
      refine WC.skip ?_
      refine WX.normal_block (WX.next (?_))
      refine WC.region ?_
      refine WL.ex rfl rfl rfl (Ex.add rfl rfl (c := ((i + 1 : Nat) : Int)) (by rw [show (i : Int) + 1 = ((i + 1 : Nat) : Int) by omega]; exact u64w_lt _ (by omega))) ?_
      refine WL.ex rfl rfl rfl (Ex.mv rfl) ?_
      refine WL.nil ?_
      refine WX.again (i + 1) ?_ ?_ (.cons rfl (.cons rfl (.cons rfl (.cons rfl (.cons rfl (.cons rfl (.cons rfl (.cons rfl (.nil)))))))))
      · (try dsimp only); omega
      · exact ⟨by omega, (Mem.sub M68 (.cons _ (.refl _)))⟩
  · skip
    refine WC.exit ?_
    refine WX.exit_then (WX.exit_then (WX.exit_block (WX.next (?_))))
    refine WC.seq ?_
    refine WC.region ?_
    refine WL.ex rfl rfl rfl (Ex.asg rfl) ?_
    refine WL.nil ?_
    refine WX.next (?_)
    refine WC.ret ?_
    refine WX.ret1 rfl rfl ?_
    exact ⟨rfl, M38.keep⟩

end Go.Proofs.YtfgikoilgmddhaaDoor
