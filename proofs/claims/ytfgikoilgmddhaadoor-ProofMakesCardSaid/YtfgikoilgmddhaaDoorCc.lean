/- Walks, written by gen.py off the translation's own print: each says what the Go function comes to. -/
import Derived.Test.YtfgikoilgmddhaaDoorCb
set_option linter.unusedVariables false
set_option linter.unusedSimpArgs false
namespace Go.Proofs.YtfgikoilgmddhaaDoor
open Go.Sx Go.RowKit
attribute [local irreducible] Ac Ex WL WC WX WP Gives

/- (*sponsion/digest.State).take -/
theorem stake_ok (w : World) (g : Nat) (ws : List Nat) (tl : List Value) (A : Option Addr) (c : Nat) (p : List UInt8) (h : (blk g (u32V ws ++ tl) 106).sat w) (hws : U32s 8 ws) (hp : p.length = 64) (hc : 64 ≤ c) (hr : Rd w A (bytesV p)) (hA : ∀ a, A = some a → a.block ≠ g) (hT : Tabs w) (hg : g ≠ 1 ∧ g ≠ 2) :
    Gives Tryd.prog 57 #[.pointer (some ⟨g, 0, none⟩), .slice A 64 c] w fun u w1 => Turn w w1 (blk g (u32V ws ++ tl) 106) (blk g (u32V (comp ws p) ++ tl) 106) := by
  have M0 := Mem.begin h
  obtain ⟨W, hW⟩ : ∃ W, W = wAt p 64 := ⟨_, rfl⟩
  have hW64 : U32s 64 W := by rw [hW]; exact wAt_ok p 64
  have hTab : ∀ {w1 : World}, Keep (· ∈ (blk g (u32V ws ++ tl) 106).fp) w w1 → ∀ {i : Nat}, i < 64 → w1.cell? ⟨2, 0 + ((i : Nat) : Int).toNat * 1, none⟩ = some (.int .u32 ((kTab.getD i 0 : Nat) : Int)) := fun k i hi => k.cell (hT.at_k hi) (by simp only [blk, List.mem_cons, List.not_mem_nil, or_false]; exact fun e => hg.2 e.symm)
  refine Gives.enter (n := 108) Tryd.func57 rfl Tryd.ntmps57 rfl (env := [(0, .pointer (some ⟨g, 0, none⟩)), (1, .slice A 64 c)]) rfl ?_
  refine WC.seq ?_
  refine WC.region ?_
  refine WL.ex rfl rfl rfl (Ex.mv rfl) ?_
  refine WL.ex rfl rfl rfl (Ex.nilc rfl) ?_
  refine WL.ex rfl rfl rfl (Ex.fa fl106_0 rfl) ?_
  refine WL.ex rfl rfl rfl (Ex.loadA ty99 rfl (u32s_len hws) (M0.rdt (i := 0) rfl (u32V_pre hws.1))) ?_
  refine WL.ac rfl rfl rfl (Ac.alloc M0 (l := u32V (List.replicate 8 0)) (by kernel_rfl)) ?_; rintro v5 w5 ⟨gl, rfl, hg5, K5, M5⟩
  refine WL.ac0 rfl rfl (Ac.stA M5 ty99 rfl rfl rfl (u32s_len hws) (u32V_one _) (i := 0) rfl (by simp [hws.1])) ?_; rintro v6 w6 ⟨K6, M6⟩
  try dsimp only [List.set] at M6
  rw [splice_all _ _ (by simp [hws.1])] at M6
  refine WL.nil ?_
  refine WX.next (?_)
  refine WC.seq ?_
  refine WC.seq ?_
  refine WC.region ?_
  refine WL.ex rfl rfl rfl (Ex.mv rfl) ?_
  refine WL.ac rfl rfl rfl (Ac.call rfl Tryd.func60 nm60 rfl (words_ok w6 A c p hp hc (hr.keep M6.keep (fun a ha hm => by simp only [blk, List.mem_cons, List.not_mem_nil, or_false] at hm; exact hA a ha hm)))) ?_; rintro v8 w8 ⟨rfl, K8⟩
  rw [← hW]
  have M8 := M6.step K8
  refine WL.ex rfl rfl rfl (Ex.mv rfl) ?_
  refine WL.nil ?_
  refine WX.next (?_)
  refine WC.block ?_
  refine WC.loop (σ := Nat) (fun i => [(0, .pointer (some ⟨g, 0, none⟩)), (4, .pointer (some ⟨gl, 0, none⟩)), (17, .agg (u32V W).toArray), (18, .int .i64 (i : Int))]) (fun i wr => i ≤ 64 ∧ U32s 8 (rAt ws W i) ∧ Mem w wr (· ∈ (blk g (u32V ws ++ tl) 106).fp) [blk gl (u32V (rAt ws W i)) 99, blk g (u32V ws ++ tl) 106]) (fun i => 64 - i) (0) ?_ (.cons rfl (.cons rfl (.cons rfl (.cons rfl (.nil))))) ?_
  · exact ⟨by decide, hws, M8⟩
  rintro i w10 ⟨hi, hR, M10⟩
  refine WC.seq ?_
  refine WC.region ?_
  refine WL.ex rfl rfl rfl (Ex.lss rfl rfl) ?_
  refine WL.nil ?_
  refine WX.next (?_)
  refine WC.seq ?_
  refine WC.cond_dec rfl (fun hi64 => ?_) (fun hi64 => ?_)
  · have hi64b : i < 64 := by omega
    obtain ⟨a, ha⟩ : ∃ a, a = rAt ws W i := ⟨_, rfl⟩
    have hrs : rAt ws W (i + 1) = rnd a (kTab.getD i 0) (W.getD i 0) := by rw [rAt, ha]
    rw [← ha] at hR M10
    refine WC.skip ?_
    refine WX.next (?_)
    refine WC.seq ?_
    refine WC.block ?_
    refine WC.seq ?_
    refine WC.region ?_
    refine WL.ex rfl rfl rfl (Ex.mv rfl) ?_
    refine WL.ex rfl rfl rfl (Ex.ixA Tryd.underlying101 ty96 rfl rfl ⟨by omega, by omega⟩ (u32V_at (i := i) (by rw [hW64.1]; omega) (by simp))) ?_
    refine WL.ex rfl rfl rfl (Ex.asg rfl) ?_
    refine WL.ex rfl rfl rfl (Ex.asg rfl) ?_
    refine WL.nil ?_
    refine WX.next (?_)
    refine WC.seq ?_
    refine WC.region ?_
    refine WL.ex rfl rfl rfl (Ex.iaA Tryd.underlying99 sz96 rfl rfl ⟨by omega, by omega⟩) ?_
    refine WL.ex rfl rfl rfl (Ex.load ty96 rfl (M10.cell (i := 0) rfl (u32V_at (i := 4) (by rw [((by first | assumption | exact (u32s_0 8)) : U32s 8 _).1]; decide) rfl))) ?_
    refine WL.ex rfl rfl rfl (Ex.iaA Tryd.underlying99 sz96 rfl rfl ⟨by omega, by omega⟩) ?_
    refine WL.ex rfl rfl rfl (Ex.load ty96 rfl (M10.cell (i := 0) rfl (u32V_at (i := 5) (by rw [((by first | assumption | exact (u32s_0 8)) : U32s 8 _).1]; decide) rfl))) ?_
    refine WL.ex rfl rfl rfl (Ex.band rfl rfl (band32 (by first | exact u32s_get (by assumption) | assumption | exact and32 (by first | exact u32s_get (by assumption) | omega) | omega | exact xor32 (and32 (by first | exact u32s_get (by assumption) | omega)) (and32 (by first | exact u32s_get (by assumption) | omega))) (by first | exact u32s_get (by assumption) | assumption | exact and32 (by first | exact u32s_get (by assumption) | omega) | omega | exact xor32 (and32 (by first | exact u32s_get (by assumption) | omega)) (and32 (by first | exact u32s_get (by assumption) | omega))) rfl)) ?_
    refine WL.ex rfl rfl rfl (Ex.iaA Tryd.underlying99 sz96 rfl rfl ⟨by omega, by omega⟩) ?_
    refine WL.ex rfl rfl rfl (Ex.load ty96 rfl (M10.cell (i := 0) rfl (u32V_at (i := 4) (by rw [((by first | assumption | exact (u32s_0 8)) : U32s 8 _).1]; decide) rfl))) ?_
    refine WL.ex rfl rfl rfl (Ex.com rfl rfl (com32 (u32s_get hR))) ?_
    refine WL.ex rfl rfl rfl (Ex.iaA Tryd.underlying99 sz96 rfl rfl ⟨by omega, by omega⟩) ?_
    refine WL.ex rfl rfl rfl (Ex.load ty96 rfl (M10.cell (i := 0) rfl (u32V_at (i := 6) (by rw [((by first | assumption | exact (u32s_0 8)) : U32s 8 _).1]; decide) rfl))) ?_
    refine WL.ex rfl rfl rfl (Ex.band rfl rfl (band32 (by first | exact u32s_get (by assumption) | assumption | exact and32 (by first | exact u32s_get (by assumption) | omega) | omega | exact xor32 (and32 (by first | exact u32s_get (by assumption) | omega)) (and32 (by first | exact u32s_get (by assumption) | omega))) (by first | exact u32s_get (by assumption) | assumption | exact and32 (by first | exact u32s_get (by assumption) | omega) | omega | exact xor32 (and32 (by first | exact u32s_get (by assumption) | omega)) (and32 (by first | exact u32s_get (by assumption) | omega))) rfl)) ?_
    refine WL.ex rfl rfl rfl (Ex.bxor rfl rfl (c := ((cho (a.getD 4 0) (a.getD 5 0) (a.getD 6 0) : Nat) : Int)) (bxor32 (and32 (u32s_get hR)) (and32 (by omega)) rfl)) ?_
    refine WL.ex rfl rfl rfl (Ex.asg rfl) ?_
    refine WL.nil ?_
    refine WX.next (?_)
    refine WC.seq ?_
    refine WC.region ?_
    refine WL.ex rfl rfl rfl (Ex.iaA Tryd.underlying99 sz96 rfl rfl ⟨by omega, by omega⟩) ?_
    refine WL.ex rfl rfl rfl (Ex.load ty96 rfl (M10.cell (i := 0) rfl (u32V_at (i := 0) (by rw [((by first | assumption | exact (u32s_0 8)) : U32s 8 _).1]; decide) rfl))) ?_
    refine WL.ex rfl rfl rfl (Ex.iaA Tryd.underlying99 sz96 rfl rfl ⟨by omega, by omega⟩) ?_
    refine WL.ex rfl rfl rfl (Ex.load ty96 rfl (M10.cell (i := 0) rfl (u32V_at (i := 1) (by rw [((by first | assumption | exact (u32s_0 8)) : U32s 8 _).1]; decide) rfl))) ?_
    refine WL.ex rfl rfl rfl (Ex.band rfl rfl (band32 (by first | exact u32s_get (by assumption) | assumption | exact and32 (by first | exact u32s_get (by assumption) | omega) | omega | exact xor32 (and32 (by first | exact u32s_get (by assumption) | omega)) (and32 (by first | exact u32s_get (by assumption) | omega))) (by first | exact u32s_get (by assumption) | assumption | exact and32 (by first | exact u32s_get (by assumption) | omega) | omega | exact xor32 (and32 (by first | exact u32s_get (by assumption) | omega)) (and32 (by first | exact u32s_get (by assumption) | omega))) rfl)) ?_
    refine WL.ex rfl rfl rfl (Ex.iaA Tryd.underlying99 sz96 rfl rfl ⟨by omega, by omega⟩) ?_
    refine WL.ex rfl rfl rfl (Ex.load ty96 rfl (M10.cell (i := 0) rfl (u32V_at (i := 0) (by rw [((by first | assumption | exact (u32s_0 8)) : U32s 8 _).1]; decide) rfl))) ?_
    refine WL.ex rfl rfl rfl (Ex.iaA Tryd.underlying99 sz96 rfl rfl ⟨by omega, by omega⟩) ?_
    refine WL.ex rfl rfl rfl (Ex.load ty96 rfl (M10.cell (i := 0) rfl (u32V_at (i := 2) (by rw [((by first | assumption | exact (u32s_0 8)) : U32s 8 _).1]; decide) rfl))) ?_
    refine WL.ex rfl rfl rfl (Ex.band rfl rfl (band32 (by first | exact u32s_get (by assumption) | assumption | exact and32 (by first | exact u32s_get (by assumption) | omega) | omega | exact xor32 (and32 (by first | exact u32s_get (by assumption) | omega)) (and32 (by first | exact u32s_get (by assumption) | omega))) (by first | exact u32s_get (by assumption) | assumption | exact and32 (by first | exact u32s_get (by assumption) | omega) | omega | exact xor32 (and32 (by first | exact u32s_get (by assumption) | omega)) (and32 (by first | exact u32s_get (by assumption) | omega))) rfl)) ?_
    refine WL.ex rfl rfl rfl (Ex.bxor rfl rfl (bxor32 (and32 (u32s_get hR)) (and32 (u32s_get hR)) rfl)) ?_
    refine WL.ex rfl rfl rfl (Ex.iaA Tryd.underlying99 sz96 rfl rfl ⟨by omega, by omega⟩) ?_
    refine WL.ex rfl rfl rfl (Ex.load ty96 rfl (M10.cell (i := 0) rfl (u32V_at (i := 1) (by rw [((by first | assumption | exact (u32s_0 8)) : U32s 8 _).1]; decide) rfl))) ?_
    refine WL.ex rfl rfl rfl (Ex.iaA Tryd.underlying99 sz96 rfl rfl ⟨by omega, by omega⟩) ?_
    refine WL.ex rfl rfl rfl (Ex.load ty96 rfl (M10.cell (i := 0) rfl (u32V_at (i := 2) (by rw [((by first | assumption | exact (u32s_0 8)) : U32s 8 _).1]; decide) rfl))) ?_
    refine WL.ex rfl rfl rfl (Ex.band rfl rfl (band32 (by first | exact u32s_get (by assumption) | assumption | exact and32 (by first | exact u32s_get (by assumption) | omega) | omega | exact xor32 (and32 (by first | exact u32s_get (by assumption) | omega)) (and32 (by first | exact u32s_get (by assumption) | omega))) (by first | exact u32s_get (by assumption) | assumption | exact and32 (by first | exact u32s_get (by assumption) | omega) | omega | exact xor32 (and32 (by first | exact u32s_get (by assumption) | omega)) (and32 (by first | exact u32s_get (by assumption) | omega))) rfl)) ?_
    refine WL.ex rfl rfl rfl (Ex.bxor rfl rfl (c := ((maj (a.getD 0 0) (a.getD 1 0) (a.getD 2 0) : Nat) : Int)) (bxor32 (xor32 (and32 (u32s_get hR)) (and32 (u32s_get hR))) (and32 (u32s_get hR)) rfl)) ?_
    refine WL.ex rfl rfl rfl (Ex.asg rfl) ?_
    refine WL.nil ?_
    refine WX.next (?_)
    refine WC.seq ?_
    refine WC.draw (Keep nof w10.drew) [] (.one 0 0 (.one 2 0 (.one 6 0 (.one 8 0 (.one 9 0 (.one 12 0 (.one 1 1 (.one 3 1 (.one 10 1 (.one 4 2 (.one 5 0 (.one 7 0 (.one 11 0 (.one 13 0 (.one 14 0 .nil))))))))))))))) mixed (by kernel_rfl) (by kernel_rfl) (by kernel_rfl) (HQ.then_ (HQ.block (HQ.then_ (HQ.then_ (HQ.block (HQ.then_ HQ.body)))))) ?_
    obtain ⟨w47, hw47⟩ : ∃ v, v = w10.drew := ⟨_, rfl⟩
    have D47 : Keep nof w10 w47 := by rw [hw47]; exact Keep.drew _ _
    have M47 := M10.step D47
    rw [← hw47]; clear hw47
    refine WP.p rfl rfl rfl rfl (fun _ => Ex.iaA Tryd.underlying99 sz96 rfl rfl ⟨by omega, by omega⟩) ?_
    refine WP.p rfl rfl rfl rfl (fun _ => Ex.iaA Tryd.underlying99 sz96 rfl rfl ⟨by omega, by omega⟩) ?_
    refine WP.p rfl rfl rfl rfl (fun _ => Ex.mv rfl) ?_
    refine WP.p rfl rfl rfl rfl (fun _ => Ex.mv rfl) ?_
    refine WP.p rfl rfl rfl rfl (fun _ => Ex.iaA Tryd.underlying101 sz96 rfl rfl ⟨by omega, by omega⟩) ?_
    refine WP.p rfl rfl rfl rfl (fun _ => Ex.mv rfl) ?_
    refine WP.q (Keep.refl _ _) rfl rfl rfl rfl (fun w' hS => Ex.load ty96 rfl (hS.cell (M47.cell (i := 0) rfl (u32V_at (i := 7) (by rw [((by first | assumption | exact (u32s_0 8)) : U32s 8 _).1]; decide) rfl)) (fun f => f))) ?_
    refine WP.q (Keep.refl _ _) rfl rfl rfl rfl (fun w' hS => Ex.load ty96 rfl (hS.cell (M47.cell (i := 0) rfl (u32V_at (i := 4) (by rw [((by first | assumption | exact (u32s_0 8)) : U32s 8 _).1]; decide) rfl)) (fun f => f))) ?_
    refine WP.q (Keep.refl _ _) rfl rfl rfl rfl (fun w' hS => Ex.load ty96 rfl (hTab (M47.keep.trans hS.any) hi64b)) ?_
    refine WP.as rfl rfl rfl rfl (Ac.call rfl Tryd.func61 nm61 rfl (turned_ok w47 _ 6 11 25 (u32s_get hR) (by decide) (by decide) (by decide))) ?_; rintro v57 w57 ⟨rfl, K57⟩
    refine ⟨Keep nof w57, fun u h => K57.trans h, Keep.refl _ _, ?_⟩
    have M57 := M47.step K57
    refine WP.p rfl rfl rfl rfl (fun _ => Ex.add rfl rfl (add32N _ _)) ?_
    refine WP.p rfl rfl rfl rfl (fun _ => Ex.add rfl rfl (add32N _ _)) ?_
    refine WP.p rfl rfl rfl rfl (fun _ => Ex.add rfl rfl (add32N _ _)) ?_
    refine WP.p rfl rfl rfl rfl (fun _ => Ex.add rfl rfl (add32N _ _)) ?_
    refine WP.p rfl rfl rfl rfl (fun _ => Ex.asg rfl) ?_
    refine WP.nil ?_
    refine WX.next (?_)
    refine WC.seq ?_
    refine WC.region ?_
    refine WL.ex rfl rfl rfl (Ex.iaA Tryd.underlying99 sz96 rfl rfl ⟨by omega, by omega⟩) ?_
    refine WL.ex rfl rfl rfl (Ex.load ty96 rfl (M57.cell (i := 0) rfl (u32V_at (i := 0) (by rw [((by first | assumption | exact (u32s_0 8)) : U32s 8 _).1]; decide) rfl))) ?_
    refine WL.ac rfl rfl rfl (Ac.call rfl Tryd.func61 nm61 rfl (turned_ok w57 _ 2 13 22 (u32s_get hR) (by decide) (by decide) (by decide))) ?_; rintro v65 w65 ⟨rfl, K65⟩
    have M65 := M57.step K65
    refine WL.ex rfl rfl rfl (Ex.mv rfl) ?_
    refine WL.ex rfl rfl rfl (Ex.add rfl rfl (add32N _ _)) ?_
    refine WL.ex rfl rfl rfl (Ex.asg rfl) ?_
    refine WL.nil ?_
    refine WX.next (?_)
    refine WC.region ?_
    refine WL.ex rfl rfl rfl (Ex.mv rfl) ?_
    refine WL.ex rfl rfl rfl (Ex.mv rfl) ?_
    refine WL.ex rfl rfl rfl (Ex.add rfl rfl (add32N _ _)) ?_
    refine WL.ex rfl rfl rfl (Ex.iaA Tryd.underlying99 sz96 rfl rfl ⟨by omega, by omega⟩) ?_
    refine WL.ex rfl rfl rfl (Ex.load ty96 rfl (M65.cell (i := 0) rfl (u32V_at (i := 0) (by rw [((by first | assumption | exact (u32s_0 8)) : U32s 8 _).1]; decide) rfl))) ?_
    refine WL.ex rfl rfl rfl (Ex.iaA Tryd.underlying99 sz96 rfl rfl ⟨by omega, by omega⟩) ?_
    refine WL.ex rfl rfl rfl (Ex.load ty96 rfl (M65.cell (i := 0) rfl (u32V_at (i := 1) (by rw [((by first | assumption | exact (u32s_0 8)) : U32s 8 _).1]; decide) rfl))) ?_
    refine WL.ex rfl rfl rfl (Ex.iaA Tryd.underlying99 sz96 rfl rfl ⟨by omega, by omega⟩) ?_
    refine WL.ex rfl rfl rfl (Ex.load ty96 rfl (M65.cell (i := 0) rfl (u32V_at (i := 2) (by rw [((by first | assumption | exact (u32s_0 8)) : U32s 8 _).1]; decide) rfl))) ?_
    refine WL.ex rfl rfl rfl (Ex.iaA Tryd.underlying99 sz96 rfl rfl ⟨by omega, by omega⟩) ?_
    refine WL.ex rfl rfl rfl (Ex.load ty96 rfl (M65.cell (i := 0) rfl (u32V_at (i := 3) (by rw [((by first | assumption | exact (u32s_0 8)) : U32s 8 _).1]; decide) rfl))) ?_
    refine WL.ex rfl rfl rfl (Ex.mv rfl) ?_
    refine WL.ex rfl rfl rfl (Ex.add rfl rfl (add32N _ _)) ?_
    refine WL.ex rfl rfl rfl (Ex.iaA Tryd.underlying99 sz96 rfl rfl ⟨by omega, by omega⟩) ?_
    refine WL.ex rfl rfl rfl (Ex.load ty96 rfl (M65.cell (i := 0) rfl (u32V_at (i := 4) (by rw [((by first | assumption | exact (u32s_0 8)) : U32s 8 _).1]; decide) rfl))) ?_
    refine WL.ex rfl rfl rfl (Ex.iaA Tryd.underlying99 sz96 rfl rfl ⟨by omega, by omega⟩) ?_
    refine WL.ex rfl rfl rfl (Ex.load ty96 rfl (M65.cell (i := 0) rfl (u32V_at (i := 5) (by rw [((by first | assumption | exact (u32s_0 8)) : U32s 8 _).1]; decide) rfl))) ?_
    refine WL.ex rfl rfl rfl (Ex.iaA Tryd.underlying99 sz96 rfl rfl ⟨by omega, by omega⟩) ?_
    refine WL.ex rfl rfl rfl (Ex.load ty96 rfl (M65.cell (i := 0) rfl (u32V_at (i := 6) (by rw [((by first | assumption | exact (u32s_0 8)) : U32s 8 _).1]; decide) rfl))) ?_
    refine WL.ex rfl rfl rfl (Ex.bldS bd99 (parts := [(0, .tmp 72), (1, .tmp 74), (2, .tmp 76), (3, .tmp 78), (4, .tmp 82), (5, .tmp 84), (6, .tmp 86), (7, .tmp 88)]) _ rfl rfl rfl bld8) ?_
    refine WL.ac0 rfl rfl (Ac.stA M65 ty99 rfl rfl rfl rfl (u32V_one _) (i := 0) rfl (by simp [hR.1, u32V])) ?_; rintro v89 w89 ⟨K89, M89⟩
    try dsimp only [List.set] at M89
    rw [splice_all _ _ (by simp [hR.1, u32V])] at M89
    replace M89 := M89.eqv (i := 0) rfl (r' := blk gl (u32V (rAt ws W (i + 1))) 99) (congrArg (fun x => blk gl (u32V x) 99) (by rw [hrs]; simp only [rnd, List.cons.injEq, and_true, true_and]; constructor <;> omega))
    try dsimp only [List.set] at M89
    refine WL.nil ?_
    refine WX.normal_block (WX.next (?_))
    refine WC.region ?_
    refine WL.ex rfl rfl rfl (Ex.add rfl rfl (i64w _ (by omega) (by omega))) ?_
    refine WL.ex rfl rfl rfl (Ex.mv rfl) ?_
    refine WL.nil ?_
    refine WX.again (i + 1) ?_ ?_ (.cons rfl (.cons rfl (.cons rfl (.cons rfl (.nil)))))
    · (try dsimp only); omega
    · exact ⟨by omega, by rw [hrs]; exact rnd_ok hR _ _, M89⟩
  · obtain rfl : i = 64 := by omega
    refine WC.exit ?_
    refine WX.exit_then (WX.exit_then (WX.exit_block (WX.next (?_))))
    refine WC.seq ?_
    refine WC.region ?_
    refine WL.ex rfl rfl rfl (Ex.mv rfl) ?_
    refine WL.nil ?_
    refine WX.next (?_)
    refine WC.block ?_
    refine WC.loop (σ := Nat) (fun i => [(0, .pointer (some ⟨g, 0, none⟩)), (4, .pointer (some ⟨gl, 0, none⟩)), (91, .int .i64 (i : Int))]) (fun i wr => i ≤ 8 ∧ Mem w wr (· ∈ (blk g (u32V ws ++ tl) 106).fp) [blk gl (u32V (rAt ws W 64)) 99, blk g (u32V (addT ws (rAt ws W 64) i) ++ tl) 106]) (fun i => 8 - i) (0) ?_ (.cons rfl (.cons rfl (.cons rfl (.nil)))) ?_
    · exact ⟨by decide, by rw [addT_0 hws.1]; exact M10⟩
    rintro i w93 ⟨hi, M93⟩
    refine WC.seq ?_
    refine WC.region ?_
    refine WL.ex rfl rfl rfl (Ex.lss rfl rfl) ?_
    refine WL.nil ?_
    refine WX.next (?_)
    refine WC.seq ?_
    refine WC.cond_dec rfl (fun hi8 => ?_) (fun hi8 => ?_)
    · have hi8b : i < 8 := by omega
      have hRl := (rAt_ok hws W 64).1
      have hal : (addT ws (rAt ws W 64) i).length = 8 := by simp [addT]
      refine WC.skip ?_
      refine WX.next (?_)
      refine WC.seq ?_
      refine WC.block ?_
      refine WC.seq ?_
      refine WC.region ?_
      refine WL.ex rfl rfl rfl (Ex.mv rfl) ?_
      refine WL.ex rfl rfl rfl (Ex.asg rfl) ?_
      refine WL.nil ?_
      refine WX.next (?_)
      refine WC.draw (Keep nof w93.drew) [13] (.one 0 0 (.one 1 0 (.one 2 0 (.one 3 0 (.one 4 0 (.one 6 0 (.one 7 0 (.one 10 0 (.one 11 0 (.one 5 1 (.one 8 1 (.one 9 0 (.one 12 0 (.one 13 2 .nil)))))))))))))) mixed (by kernel_rfl) (by kernel_rfl) (by kernel_rfl) (HQ.block (HQ.then_ (HQ.then_ (HQ.block HQ.body)))) ?_
      obtain ⟨w97, hw97⟩ : ∃ v, v = w93.drew := ⟨_, rfl⟩
      have D97 : Keep nof w93 w97 := by rw [hw97]; exact Keep.drew _ _
      have M97 := M93.step D97
      rw [← hw97]; clear hw97
      refine WP.p rfl rfl rfl rfl (fun _ => Ex.mv rfl) ?_
      refine WP.p rfl rfl rfl rfl (fun _ => Ex.mv rfl) ?_
      refine WP.p rfl rfl rfl rfl (fun _ => Ex.nilc rfl) ?_
      refine WP.p rfl rfl rfl rfl (fun _ => Ex.fa fl106_0 rfl) ?_
      refine WP.p rfl rfl rfl rfl (fun _ => Ex.iaA Tryd.underlying99 sz96 rfl rfl ⟨by omega, by omega⟩) ?_
      refine WP.p rfl rfl rfl rfl (fun _ => Ex.mv rfl) ?_
      refine WP.p rfl rfl rfl rfl (fun _ => Ex.iaA Tryd.underlying99 sz96 rfl rfl ⟨by omega, by omega⟩) ?_
      refine WP.p rfl rfl rfl rfl (fun _ => Ex.nilc rfl) ?_
      refine WP.p rfl rfl rfl rfl (fun _ => Ex.fa fl106_0 rfl) ?_
      refine WP.q (Keep.refl _ _) rfl rfl rfl rfl (fun w' hS => Ex.load ty96 rfl (hS.cell (M97.cell (i := 1) rfl (u32V_atL (i := i) (by rw [hal]; omega) (by simp))) (fun f => f))) ?_
      refine WP.q (Keep.refl _ _) rfl rfl rfl rfl (fun w' hS => Ex.load ty96 rfl (hS.cell (M97.cell (i := 0) rfl (u32V_at (i := i) (by rw [hRl]; omega) (by simp))) (fun f => f))) ?_
      refine WP.p rfl rfl rfl rfl (fun _ => Ex.add rfl rfl (add32N _ _)) ?_
      refine WP.p rfl rfl rfl rfl (fun _ => Ex.iaA Tryd.underlying99 sz96 rfl rfl ⟨by omega, by omega⟩) ?_
      refine WP.a0 rfl rfl rfl (Ac.st M97 ty96 rfl rfl rfl (i := 1) rfl (by simp [hal]; omega)) ?_; rintro v111 w111 ⟨K111, M111⟩; refine .inl ⟨rfl, Keep nof w111, ?_⟩
      try dsimp only [List.set] at M111
      simp only [Int.toNat_natCast, Nat.mul_one, Nat.zero_add] at M111
      rw [u32V_setL (by rw [hal]; omega), addT_get hi8b, if_neg (by omega), addT_set hi8b] at M111
      refine WP.nil ?_
      refine WX.normal_block (WX.next (?_))
      refine WC.region ?_
      refine WL.ex rfl rfl rfl (Ex.add rfl rfl (i64w _ (by omega) (by omega))) ?_
      refine WL.ex rfl rfl rfl (Ex.mv rfl) ?_
      refine WL.nil ?_
      refine WX.again (i + 1) ?_ ?_ (.cons rfl (.cons rfl (.cons rfl (.nil))))
      · (try dsimp only); omega
      · exact ⟨by omega, M111⟩
    · obtain rfl : i = 8 := by omega
      have hcomp : addT ws (rAt ws W 64) 8 = comp ws p := by rw [comp, hW]
      rw [hcomp] at M93
      refine WC.exit ?_
      refine WX.exit_then (WX.exit_then (WX.exit_block (?_)))
      refine WX.end0 rfl ?_
      exact (Mem.sub M93 (.cons _ (.refl _))).toTurn

/- sponsion/digest.New -/
theorem dnew_ok (w : World) (hT : Tabs w) :
    Gives Tryd.prog 46 #[] w fun u w1 => ∃ g v, u = .pointer (some ⟨g, 0, none⟩) ∧ New w w1 (stR g v []) := by
  have M0 := (Mem.start w nof).free (r := mrw (.slice none 0 0) 5 (bytesV (stB []))) (mrw_nil _ _) rfl
  refine Gives.enter (n := 4) Tryd.func46 rfl Tryd.ntmps46 rfl (env := []) rfl ?_
  refine WC.seq ?_
  refine WC.region ?_
  refine WL.ex rfl rfl rfl (Ex.asg rfl) ?_
  refine WL.nil ?_
  refine WX.next (?_)
  refine WC.seq ?_
  refine WC.region ?_
  refine WL.ex rfl rfl rfl (Ex.loadA ty99 rfl (l := u32V hBeg) rfl (hT.keep M0.keep).beg) ?_
  refine WL.ex rfl rfl rfl (Ex.bldS bd106 (parts := [(0, .tmp 1)]) [u32V hBeg] (l := stC (stW []) (.slice none 0 0) 0) rfl rfl rfl ⟨0, 8, rfl, rfl, rfl, by simp, rfl⟩) ?_
  refine WL.ac rfl rfl rfl (Ac.box M0 rfl rfl) ?_; rintro v4 w4 ⟨g, rfl, hg4, K4, M4⟩
  replace M4 := M4.closeS
  refine WL.ex rfl rfl rfl (Ex.asg rfl) ?_
  refine WL.nil ?_
  refine WX.next (?_)
  refine WC.ret ?_
  refine WX.ret1 rfl rfl ?_
  exact ⟨g, _, rfl, M4.toNew⟩

end Go.Proofs.YtfgikoilgmddhaaDoor
