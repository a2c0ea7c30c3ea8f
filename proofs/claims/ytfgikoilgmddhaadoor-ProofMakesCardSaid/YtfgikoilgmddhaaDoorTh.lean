/- Walks, written by gen.py off the translation's own print: each says what the Go function comes to. -/
import Derived.Test.YtfgikoilgmddhaaDoorTg
set_option linter.unusedVariables false
set_option linter.unusedSimpArgs false
namespace Go.Proofs.YtfgikoilgmddhaaDoor
open Go.Sx Go.RowKit
attribute [local irreducible] Ac Ex WL WC WX WP Gives sha

def h1_ : List UInt8 := 1 :: List.replicate 31 0
theorem h1_32 : H32 h1_ := rfl
theorem tApp_1 : tApp 1 [] h1_ = (0, 0, [h1_]) := rfl
theorem _root_.Go.Sx.Mem.tabF {w0 w : World} {rs : List Res} {r : Res} (M : Mem w0 w nof rs) (hT : Tabs w0) (i : Nat) (hi : rs[i]? = some r) : ∀ b ∈ r.fp, b ≠ 1 ∧ b ≠ 2 :=
  fun b hb => (M.own _ (List.mem_of_getElem? hi) b hb).elim (fun hle => hT.fresh hle) (fun f => f.elim)
theorem tApp_ok {d : Nat} {ls : Hs} {h : List UInt8} (hl : ls.length < 2 ^ d) : tApp d ls h = (ls.length, 0, ls ++ [h]) := if_pos hl
theorem fl_drop {l : Hs} (h : ∀ a ∈ l, H32 a) (m : Nat) : fl (l.drop m) = (fl l).drop (m * 32) := by
  have e : fl l = fl (l.take m) ++ fl (l.drop m) := by rw [fl, fl, fl, ← List.flatMap_append, List.take_append_drop]
  rcases Nat.le_total m l.length with hm | hm
  · have h1 : (fl (l.take m)).length = m * 32 := by rw [fl_len (fun a ha => h a (List.mem_of_mem_take ha)), List.length_take, Nat.min_eq_left hm]
    rw [e, ← h1, List.drop_left]
  · rw [List.drop_eq_nil_of_le hm, List.drop_eq_nil_of_le (by rw [fl_len h]; exact Nat.mul_le_mul_right _ hm)]
    rfl
/-- A slice of hashes that comes in. -/
theorem ok_hashes {w : World} {v : Value} (h : CK.ok w (.sl (rep 32 [.int .u8])) v) : ∃ A c, ∃ ls : Hs, v = .slice A ls.length c ∧ ls.length ≤ c ∧ c ≤ maxLen ∧ Rd w A (fl ls) ∧ ∀ a ∈ ls, H32 a := by
  obtain ⟨A, c, es, h1, h2, h3, h4, h5⟩ := sl_view h bytesV H32 (fun vs hv => h32_view vs hv)
  exact ⟨A, c, es, h1, h2, h3, h4, h5⟩

/- sponsion/sponsionlaw10.lives -/
theorem lives10_ok (w : World) (hT : Tabs w) :
    Gives Tryd.prog 11 #[] w fun u w1 => u = .bool true ∧ Keep nof w w1 := by
  have M0 := Mem.start w nof
  have h132 := h1_32
  have he32 : H32 e0 := dOf_len 2 []
  have hd32 := dNode_len h1_ e0
  have hal : ∀ a ∈ [h1_], H32 a := by intro a ha; obtain rfl : a = h1_ := (by simpa using ha); exact h1_32
  refine Gives.enter (n := 32) Tryd.func11 rfl Tryd.ntmps11 rfl (env := []) rfl ?_
  refine WC.seq ?_
  refine WC.region ?_
  refine WL.ex rfl rfl rfl (Ex.asg rfl) ?_
  refine WL.nil ?_
  refine WX.next (?_)
  refine WC.seq ?_
  refine WC.region ?_
  refine WL.ac rfl rfl rfl (Ac.call rfl Tryd.func12 nm12 rfl (tNew_ok w 1 (by decide) (hT.keep M0.keep))) ?_; rintro v2 w2 ⟨g, gl, ge, rfl, N2⟩
  have M2 := (M0.new N2).openS
  refine WL.ex rfl rfl rfl (Ex.asg rfl) ?_
  refine WL.nil ?_
  refine WX.next (?_)
  refine WC.seq ?_
  refine WC.region ?_
  refine WL.ex rfl rfl rfl (Ex.bldS bd28 (parts := [(0, .const (.int .u8 1))]) [[.int .u8 1]] (l := bytesV h1_) rfl rfl rfl ⟨0, 1, rfl, rfl, rfl, by simp, rfl⟩) ?_
  refine WL.ac rfl rfl rfl (Ac.alloc M2 (l := bytesV (List.replicate 32 0)) (by kernel_rfl)) ?_; rintro v5 w5 ⟨gh, rfl, hg5, K5, M5⟩
  refine WL.ac0 rfl rfl (Ac.stA M5 ty28 rfl rfl rfl (h32_len (by first | assumption | exact h32_0)) (bytesV_one _) (i := 0) rfl (by first | (rw [h32_len (by first | assumption | exact h32_0), h32_len (by first | assumption | exact h32_0)]; decide) | (rw [h32_len (by first | assumption | exact h32_0)]; decide) | rw [h32_len (by first | assumption | exact h32_0)])) ?_; rintro v6 w6 ⟨K6, M6⟩
  try dsimp only [List.set] at M6
  rw [splice_all _ _ (by first | rw [h32_len (by first | assumption | exact h32_0), h32_len (by first | assumption | exact h32_0)] | rw [h32_len (by first | assumption | exact h32_0)])] at M6
  refine WL.nil ?_
  refine WX.next (?_)
  refine WC.seq ?_
  refine WC.region ?_
  refine WL.ex rfl rfl rfl (Ex.mv rfl) ?_
  refine WL.ex rfl rfl rfl (Ex.loadA ty28 rfl (h32_len (by first | assumption | exact h32_0)) (M6.rdw (i := 0) rfl)) ?_
  refine WL.ac rfl rfl rfl (Ac.call rfl Tryd.func13 nm13 rfl (tAppend_ok w6 g gl ge 1 (nilS 2) ([]) h1_ (M6.get (i := 2) rfl) (by simp) h1_32 (by decide) (hT.keep M6.keep) (M6.tabF hT 2 rfl))) ?_; rintro v9 w9 ⟨vs1, rfl, T9⟩
  rw [tApp_ok (by decide)] at T9 ⊢
  dsimp only at T9
  rw [List.nil_append] at T9
  have M9 := M6.turned (i := 2) rfl T9
  try dsimp only [List.set] at M9
  refine WL.ex rfl rfl rfl (Ex.mv rfl) ?_
  refine WL.ex rfl rfl rfl (Ex.ext rfl rfl) ?_
  refine WL.ex rfl rfl rfl (Ex.ext rfl rfl) ?_
  refine WL.ex rfl rfl rfl (Ex.asg rfl) ?_
  refine WL.ex rfl rfl rfl (Ex.asg rfl) ?_
  refine WL.nil ?_
  refine WX.next (?_)
  refine WC.seq ?_
  refine WC.draw (Keep nof w9.drew) [8, 16] (.one 0 0 (.one 1 0 (.one 2 0 (.one 3 0 (.one 4 0 (.one 5 0 (.one 6 0 (.one 7 0 (.one 8 2 (.one 9 0 (.one 10 0 (.one 11 0 (.one 12 0 (.one 14 1 (.one 13 2 (.one 15 2 (.one 16 2 (.one 17 0 (.one 18 0 (.one 19 0 .nil)))))))))))))))))))) mixed (by kernel_rfl) (by kernel_rfl) (by kernel_rfl) (HQ.then_ HQ.body) ?_
  obtain ⟨w15, hw15⟩ : ∃ v, v = w9.drew := ⟨_, rfl⟩
  have D15 : Keep nof w9 w15 := by rw [hw15]; exact Keep.drew _ _
  have M15 := M9.step D15
  rw [← hw15]; clear hw15
  refine WP.p rfl rfl rfl rfl (fun _ => Ex.mv rfl) ?_
  refine WP.p rfl rfl rfl rfl (fun _ => Ex.nePn Tryd.underlying25 rfl) ?_
  refine WP.p rfl rfl rfl rfl (fun _ => Ex.mv rfl) ?_
  refine WP.py rfl rfl rfl rfl rfl rfl (fun _ => Ex.mv rfl) ?_
  refine WP.py rfl rfl rfl rfl rfl rfl (fun _ => Ex.eqI rfl rfl) ?_
  refine WP.p rfl rfl rfl rfl (fun _ => Ex.pickT rfl rfl) ?_
  refine WP.p rfl rfl rfl rfl (fun _ => Ex.mv rfl) ?_
  
  refine WP.py rfl rfl rfl rfl rfl rfl (fun _ => Ex.mv rfl) ?_
  refine WP.ay rfl rfl rfl rfl rfl rfl (Ac.call rfl Tryd.func16 nm16 rfl (tLen_ok w15 g gl ge 1 vs1 _ ([h1_]) (TreeS.of (M15.get (i := 2) rfl) (lvOf_len _ _)) (by rw [lvOf_get (by decide), levOf_zero]))) ?_; rintro v24 w24 ⟨rfl, K24⟩; refine .inl ⟨rfl, Keep nof w24, ?_⟩
  have M24 := M15.step K24
  refine WP.py rfl rfl rfl rfl rfl rfl (fun _ => Ex.eqI rfl rfl) ?_
  refine WP.p rfl rfl rfl rfl (fun _ => Ex.pickT rfl rfl) ?_
  refine WP.p rfl rfl rfl rfl (fun _ => Ex.mv rfl) ?_
  
  refine WP.py rfl rfl rfl rfl rfl rfl (fun _ => Ex.mv rfl) ?_
  refine WP.qy (Keep.refl _ _) rfl rfl rfl rfl rfl rfl (fun w' hS => Ex.loadA ty28 rfl (h32_len (by first | assumption | exact h32_0)) ((M24.rdw (i := 0) rfl).keep0 hS)) ?_
  refine WP.ays rfl rfl rfl rfl rfl rfl (Ac.call rfl Tryd.func14 nm14 rfl (tRoot_ok w24 g gl ge 1 vs1 ([h1_]) (TreeS.of (M24.get (i := 2) rfl) (lvOf_len _ _)) (ES.of (M24.get (i := 1) rfl)) hal (by decide) (hT.keep M24.keep))) ?_; rintro v30 w30 ⟨rfl, K30⟩
  refine ⟨Keep nof w30, fun u h => K30.trans h, Keep.refl _ _, ?_⟩
  rw [show nd dNode e0 [h1_] 1 0 = dNode h1_ e0 from rfl]
  have M30 := M24.step K30
  refine WP.ays rfl rfl rfl rfl rfl rfl (Ac.call rfl Tryd.func34 nm34 rfl (empty_ok w30 0 (by decide) (hT.keep M30.keep))) ?_; rintro v31 w31 ⟨rfl, K31⟩
  refine ⟨Keep nof w31, fun u h => K31.trans h, Keep.refl _ _, ?_⟩
  rw [e0_empty]
  have M31 := M30.step K31
  refine WP.ay rfl rfl rfl rfl rfl rfl (Ac.call rfl Tryd.func30 nm30 rfl (node_ok w31 _ _ h132 he32 (hT.keep M31.keep))) ?_; rintro v32 w32 ⟨rfl, K32⟩; refine .inl ⟨rfl, Keep nof w32, ?_⟩
  have M32 := M31.step K32
  refine WP.py rfl rfl rfl rfl rfl rfl (fun _ => Ex.eqA rfl rfl (eqHash w hd32 hd32)) ?_
  rw [decide_eq_true rfl]
  refine WP.p rfl rfl rfl rfl (fun _ => Ex.pickT rfl rfl) ?_
  refine WP.p rfl rfl rfl rfl (fun _ => Ex.asg rfl) ?_
  refine WP.nil ?_
  refine WX.next (?_)
  refine WC.ret ?_
  refine WX.ret1 rfl rfl ?_
  exact ⟨rfl, M32.keep⟩
  -- UNUSED HINTS ['split:4.2']

end Go.Proofs.YtfgikoilgmddhaaDoor
