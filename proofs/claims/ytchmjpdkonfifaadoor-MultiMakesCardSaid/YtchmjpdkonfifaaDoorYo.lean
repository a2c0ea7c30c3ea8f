/- Walks, written by gen.py off the translation's own print: each says what the Go function comes to. -/
import Derived.Test.YtchmjpdkonfifaaDoorY6
import Derived.Test.YtchmjpdkonfifaaDoorY7
import Derived.Test.YtchmjpdkonfifaaDoorYn
set_option linter.unusedVariables false
set_option linter.unusedSimpArgs false
namespace Go.Proofs.YtchmjpdkonfifaaDoor
open Go.Sx Go.RowKit
attribute [local irreducible] Ac Ex WL WC WX WP Gives sha

theorem bes_pow {l d i : Nat} (hl : l < d) (hd : d ≤ 32) (h : i < 2 ^ (d - l)) : bes i < 4294967296 ∧ (bes i + 1) * 2 ^ l ≤ 4294967296 := by
  obtain ⟨m, hm⟩ : ∃ m, d - l = m + 1 := ⟨d - l - 1, by omega⟩
  rw [hm] at h
  have h1 := bes_lt h
  have h2 : (bes i + 1) * 2 ^ l ≤ 2 ^ (m + 1) * 2 ^ l := Nat.mul_le_mul_right _ h1
  rw [← Nat.pow_add] at h2
  have h3 : 2 ^ (m + 1 + l) ≤ 2 ^ 32 := Nat.pow_le_pow_right (by decide) (by omega)
  have h4 : 2 ^ (m + 1) ≤ 2 ^ 32 := Nat.pow_le_pow_right (by decide) (by omega)
  have h5 : (2 : Nat) ^ 32 = 4294967296 := rfl
  exact ⟨by omega, by omega⟩
theorem ups_lt {zs : List Nat} {d : Nat} (h : ∀ z ∈ zs, z < 2 ^ (d + 1)) : ∀ z ∈ ups zs, z < 2 ^ d := fun v hv => by
  obtain ⟨z, hz, rfl⟩ := (ups_mem zs v).1 hv
  have := h z hz
  rw [Nat.pow_succ] at this
  omega

/- sponsion/sponsionref33.Nodes -/
theorem nodes33_ok (w : World) (A : Option Addr) (c : Nat) (ls1 : Hs) (B : Option Addr) (c2 d : Nat) (zs : List Nat) (hrl : Rd w A (fl ls1)) (h132 : ∀ a ∈ ls1, H32 a) (hll : ls1.length ≤ 4294967296) (hr : Rd w B (u64V zs)) (hs : SI zs) (hz : ∀ z ∈ zs, z < 2 ^ d) (hd : d ≤ 32) (h1 : 1 ≤ zs.length) (hl50 : zs.length ≤ 50) (hR : TabR w) :
    Gives Tryd.prog 35 #[.int .i64 (d : Int), .slice A (List.length ls1) c, .slice B zs.length c2] w fun u w1 => New w w1 (row u 31 32 (List.length (sibs (fun q0 q1 => nd dNode e0 ls1 q0 q1) d 0 zs)) (fl (sibs (fun q0 q1 => nd dNode e0 ls1 q0 q1) d 0 zs))) := by
  have M0 := Mem.start w nof
  have hp32 := pow32 hd
  refine Gives.enter (n := 85) Tryd.func35 rfl Tryd.ntmps35 rfl (env := [(0, .int .i64 (d : Int)), (1, .slice A (List.length ls1) c), (2, .slice B zs.length c2)]) rfl ?_
  obtain ⟨b1, o1, hA1, _⟩ := hr.plain (by simp; omega)
  subst hA1
  refine WC.seq ?_
  refine WC.region ?_
  refine WL.ex rfl rfl rfl (Ex.asg rfl) ?_
  refine WL.nil ?_
  refine WX.next (?_)
  refine WC.seq ?_
  refine WC.region ?_
  refine WL.ex rfl rfl rfl (Ex.asg rfl) ?_
  refine WL.nil ?_
  refine WX.next (?_)
  refine WC.seq ?_
  refine WC.seq ?_
  refine WC.region ?_
  refine WL.ex rfl rfl rfl (Ex.mv rfl) ?_
  refine WL.ex rfl rfl rfl (Ex.mv rfl) ?_
  refine WL.nil ?_
  refine WX.next (?_)
  refine WC.block ?_
  refine WC.loop (σ := Nat × Bool × Nat × Nat × Nat × List Nat × Value × Hs) (fun s => [(1, .slice A (List.length ls1) c), (2, .slice (some ⟨s.2.2.1, s.2.2.2.1, none⟩) (List.length s.2.2.2.2.2.1) s.2.2.2.2.1), (7, s.2.2.2.2.2.2.1), (13, .int .i64 (d : Int)), (14, .int .i64 (s.1 : Int))]) (fun s wr => s.1 ≤ d ∧ 1 ≤ List.length s.2.2.2.2.2.1 ∧ List.length s.2.2.2.2.2.1 ≤ 50 ∧ SI s.2.2.2.2.2.1 ∧ (∀ z ∈ s.2.2.2.2.2.1, z < 2 ^ (d - s.1)) ∧ (s.2.1 = false → Rd w (some ⟨s.2.2.1, s.2.2.2.1, none⟩) (u64V s.2.2.2.2.2.1) ∧ ¬ nof s.2.2.1) ∧ List.length s.2.2.2.2.2.2.2 ≤ 50 * s.1 ∧ s.2.2.2.2.2.2.2 ++ sibs (fun q0 q1 => nd dNode e0 ls1 q0 q1) (d - s.1) s.1 s.2.2.2.2.2.1 = sibs (fun q0 q1 => nd dNode e0 ls1 q0 q1) d 0 zs ∧ Mem w wr nof [optR s.2.1 (row (.slice (some ⟨s.2.2.1, s.2.2.2.1, none⟩) (List.length s.2.2.2.2.2.1) s.2.2.2.2.1) 23 1 (List.length s.2.2.2.2.2.1) (u64V s.2.2.2.2.2.1)), row s.2.2.2.2.2.2.1 31 32 (List.length s.2.2.2.2.2.2.2) (fl s.2.2.2.2.2.2.2)]) (fun s => d - s.1) (((0, false, b1, o1, c2, zs, .slice none 0 0, []) : Nat × Bool × Nat × Nat × Nat × List Nat × Value × Hs)) ?_ (.cons rfl (.cons rfl (.cons rfl (.cons rfl (.cons rfl (.nil)))))) ?_
  · have Ma := M0.free (r := row (.slice none 0 0) 31 32 (List.length ([] : Hs)) (fl ([] : Hs))) (row_nil _ _ _) rfl
    exact ⟨by dsimp only; omega, h1, hl50, hs, hz, fun _ => ⟨hr, fun f => f⟩, by simp, by simp, Ma.free (r := emptyR) trivial rfl⟩
  rintro ⟨l, own, b0, o0, c0, ps, v, out⟩ w5 ⟨hld, hp1, hp2, hsp, hpb, hx, hol, hout, M5⟩
  dsimp only at hld hp1 hp2 hsp hpb hx hol hout M5
  refine WC.sub (env' := [(1, .slice A (List.length ls1) c), (2, .slice (some ⟨b0, o0, none⟩) (List.length ps) c0), (7, v), (13, .int .i64 (d : Int)), (14, .int .i64 (l : Int))]) (.cons rfl (.cons rfl (.cons rfl (.cons rfl (.cons rfl (.nil)))))) ?_
  refine WC.seq ?_
  refine WC.region ?_
  refine WL.ex rfl rfl rfl (Ex.lss rfl rfl) ?_
  refine WL.nil ?_
  refine WX.next (?_)
  refine WC.seq ?_
  refine WC.cond_dec rfl (fun hc15 => ?_) (fun hc15 => ?_)
  · have hlt : l < d := by omega
    have hpg : ∀ k, k < List.length ps → gv ps k < 4294967296 := fun k hk => by
      have h1 := hpb _ (gv_mem hk)
      have h2 : 2 ^ (d - l) ≤ 2 ^ 32 := Nat.pow_le_pow_right (by decide) (by omega)
      have h5 : (2 : Nat) ^ 32 = 4294967296 := rfl
      omega
    refine WC.skip ?_
    refine WX.next (?_)
    refine WC.seq ?_
    refine WC.block ?_
    refine WC.seq ?_
    refine WC.region ?_
    refine WL.ex rfl rfl rfl (Ex.mv rfl) ?_
    refine WL.ex rfl rfl rfl (Ex.asg rfl) ?_
    refine WL.nil ?_
    refine WX.next (?_)
    refine WC.seq ?_
    refine WC.region ?_
    refine WL.ex rfl rfl rfl (Ex.asg rfl) ?_
    refine WL.nil ?_
    refine WX.next (?_)
    refine WC.seq ?_
    refine WC.seq ?_
    refine WC.region ?_
    refine WL.ex rfl rfl rfl (Ex.mv rfl) ?_
    refine WL.ex rfl rfl rfl (Ex.len Tryd.underlying67 rfl) ?_
    refine WL.ex rfl rfl rfl (Ex.mv rfl) ?_
    refine WL.nil ?_
    refine WX.next (?_)
    refine WC.block ?_
    refine WC.loop (σ := Nat × Value × List Nat × Value × Hs) (fun s => [(1, .slice A (List.length ls1) c), (2, .slice (some ⟨b0, o0, none⟩) (List.length ps) c0), (7, s.2.2.2.1), (8, .int .i64 (l : Int)), (9, s.2.1), (13, .int .i64 (d : Int)), (14, .int .i64 (l : Int)), (17, .slice (some ⟨b0, o0, none⟩) (List.length ps) c0), (18, .int .i64 (List.length ps : Int)), (19, .int .i64 (s.1 : Int))]) (fun s wr => s.1 ≤ List.length ps ∧ UpI ps s.1 s.2.2.1 ∧ List.length s.2.2.1 ≤ s.1 ∧ s.2.2.2.2 = out ++ outs (fun q0 q1 => nd dNode e0 ls1 q0 q1) l ps s.1 ∧ Mem w wr nof [row s.2.1 23 1 (List.length s.2.2.1) (u64V s.2.2.1), row s.2.2.2.1 31 32 (List.length s.2.2.2.2) (fl s.2.2.2.2), optR own (row (.slice (some ⟨b0, o0, none⟩) (List.length ps) c0) 23 1 (List.length ps) (u64V ps))]) (fun s => List.length ps - s.1) (((0, .slice none 0 0, [], v, out) : Nat × Value × List Nat × Value × Hs)) ?_ (.cons rfl (.cons rfl (.cons rfl (.cons rfl (.cons rfl (.cons rfl (.cons rfl (.cons rfl (.cons rfl (.cons rfl (.nil))))))))))) ?_
    · have Ma := M5.free (r := row (.slice none 0 0) 23 1 (List.length ([] : List Nat)) (u64V ([] : List Nat))) (row_nil _ _ _) rfl
      exact ⟨by dsimp only; omega, .start _, by simp, by simp [outs], Ma.pick [0, 1 + 1, 0 + 1] (by decide) rfl⟩
    rintro ⟨k, vu, up, v2, ob⟩ w13 ⟨hk, hup, hul, hob, M13⟩
    dsimp only at hk hup hul hob M13
    refine WC.sub (env' := [(1, .slice A (List.length ls1) c), (2, .slice (some ⟨b0, o0, none⟩) (List.length ps) c0), (7, v2), (8, .int .i64 (l : Int)), (9, vu), (13, .int .i64 (d : Int)), (14, .int .i64 (l : Int)), (17, .slice (some ⟨b0, o0, none⟩) (List.length ps) c0), (18, .int .i64 (List.length ps : Int)), (19, .int .i64 (k : Int))]) (.cons rfl (.cons rfl (.cons rfl (.cons rfl (.cons rfl (.cons rfl (.cons rfl (.cons rfl (.cons rfl (.cons rfl (.nil))))))))))) ?_
    refine WC.seq ?_
    refine WC.region ?_
    refine WL.ex rfl rfl rfl (Ex.lss rfl rfl) ?_
    refine WL.nil ?_
    refine WX.next (?_)
    refine WC.seq ?_
    refine WC.cond_dec rfl (fun hc20 => ?_) (fun hc20 => ?_)
    · have hgk := hpg k (by omega)
      have hbp := bes_pow hlt hd (hpb _ (gv_mem (show k < List.length ps by omega)))
      refine WC.skip ?_
      refine WX.next (?_)
      refine WC.seq ?_
      refine WC.block ?_
      refine WC.seq ?_
      refine WC.region ?_
      refine WL.ex rfl rfl rfl (Ex.mv rfl) ?_
      refine WL.ex rfl rfl rfl (Ex.ia Tryd.underlying67 sz23 rfl rfl ⟨by omega, by omega⟩) ?_
      refine WL.ex rfl rfl rfl (Ex.load ty23 rfl (u64_at (rdP M13 (i := 2) rfl hx) (k := k) (by omega) (by omega))) ?_
      refine WL.ex rfl rfl rfl (Ex.asg rfl) ?_
      refine WL.ex rfl rfl rfl (Ex.asg rfl) ?_
      refine WL.nil ?_
      refine WX.next (?_)
      refine WC.cut (σ := Bool) (fun bb => [(1, .slice A (List.length ls1) c), (2, .slice (some ⟨b0, o0, none⟩) (List.length ps) c0), (7, v2), (8, .int .i64 (l : Int)), (9, vu), (10, .int .i64 (k : Int)), (11, .int .u64 (gv ps (k) : Int)), (12, .bool bb), (13, .int .i64 (d : Int)), (14, .int .i64 (l : Int)), (17, .slice (some ⟨b0, o0, none⟩) (List.length ps) c0), (18, .int .i64 (List.length ps : Int)), (19, .int .i64 (k : Int))]) (fun bb wr => bb = decide (bes (gv ps k) ∈ ps) ∧ Mem w wr nof [row vu 23 1 (List.length up) (u64V up), row v2 31 32 (List.length ob) (fl ob), optR own (row (.slice (some ⟨b0, o0, none⟩) (List.length ps) c0) 23 1 (List.length ps) (u64V ps))]) ?_ ?_
      ·
        refine WC.draw (Keep nof w13.drew) [] (.one 0 0 (.one 1 0 (.one 2 0 (.one 3 0 (.one 4 0 (.one 5 0 (.one 6 0 (.one 7 0 (.one 8 0 (.one 9 0 (.one 11 0 (.one 10 1 (.one 12 2 (.one 13 0 (.one 14 0 (.one 15 0 (.one 16 0 (.one 17 0 (.one 18 0 (.one 19 0 (.one 20 0 (.one 21 0 (.one 22 0 (.one 24 0 (.one 23 1 (.one 25 2 (.one 26 0 (.one 27 0 (.one 28 0 (.one 29 0 .nil)))))))))))))))))))))))))))))) mixed (by kernel_rfl) (by kernel_rfl) (by kernel_rfl) (HQ.then_ (HQ.block (HQ.then_ (HQ.then_ (HQ.block (HQ.then_ (HQ.block (HQ.then_ (HQ.then_ (HQ.block (HQ.then_ HQ.body))))))))))) ?_
        obtain ⟨w20, hw20⟩ : ∃ v, v = w13.drew := ⟨_, rfl⟩
        have D20 : Keep nof w13 w20 := by rw [hw20]; exact Keep.drew _ _
        have M20 := M13.step D20
        rw [← hw20]; clear hw20
        refine WP.p rfl rfl rfl rfl (fun _ => Ex.mv rfl) ?_
        refine WP.p rfl rfl rfl rfl (fun _ => Ex.add rfl rfl (c := ((k + 1 : Nat) : Int)) (wrapN (by omega) (by omega))) ?_
        refine WP.p rfl rfl rfl rfl (fun _ => Ex.mv rfl) ?_
        refine WP.p rfl rfl rfl rfl (fun _ => Ex.len Tryd.underlying67 rfl) ?_
        refine WP.p rfl rfl rfl rfl (fun _ => Ex.lss rfl rfl) ?_
        by_cases h94 : ((k + 1 : Nat) : Int) < ((List.length ps : Nat) : Int)
        · rw [decide_eq_true h94]
          refine WP.p rfl rfl rfl rfl (fun _ => Ex.mv rfl) ?_
          refine WP.py rfl rfl rfl rfl rfl rfl (fun _ => Ex.mv rfl) ?_
          refine WP.py rfl rfl rfl rfl rfl rfl (fun _ => Ex.mv rfl) ?_
          refine WP.py rfl rfl rfl rfl rfl rfl (fun _ => Ex.add rfl rfl (c := ((k + 1 : Nat) : Int)) (wrapN (by omega) (by omega))) ?_
          refine WP.py rfl rfl rfl rfl rfl rfl (fun _ => Ex.ia Tryd.underlying67 sz23 rfl rfl ⟨by omega, by omega⟩) ?_
          refine WP.py rfl rfl rfl rfl rfl rfl (fun _ => Ex.mv rfl) ?_
          refine WP.qy (Keep.refl _ _) rfl rfl rfl rfl rfl rfl (fun w' hS => Ex.load ty23 rfl (u64_at ((rdP M20 (i := 2) rfl hx).keep0 hS) (k := k + 1) (by omega) (by omega))) ?_
          refine WP.ays rfl rfl rfl rfl rfl rfl (Ac.call rfl Tryd.func69 nm69 rfl (bes_ok w20 (gv ps k) (by omega))) ?_; rintro v33 w33 ⟨rfl, K33⟩
          refine ⟨Keep nof w33, fun u h => K33.trans h, Keep.refl _ _, ?_⟩
          have M33 := M20.step K33
          refine WP.py rfl rfl rfl rfl rfl rfl (fun _ => Ex.eqI rfl rfl) ?_
          by_cases h913 : ((gv ps (k + 1) : Nat) : Int) = ((bes (gv ps k) : Nat) : Int)
          · rw [decide_eq_true h913]
            refine WP.p rfl rfl rfl rfl (fun _ => Ex.pickT rfl rfl) ?_
            refine WP.p rfl rfl rfl rfl (fun _ => Ex.mv rfl) ?_
            refine WP.no rfl rfl rfl rfl rfl rfl rfl ?_
            refine WP.no rfl rfl rfl rfl rfl rfl rfl ?_
            refine WP.no rfl rfl rfl rfl rfl rfl rfl ?_
            refine WP.no rfl rfl rfl rfl rfl rfl rfl ?_
            refine WP.no rfl rfl rfl rfl rfl rfl rfl ?_
            refine WP.no rfl rfl rfl rfl rfl rfl rfl ?_
            refine WP.no rfl rfl rfl rfl rfl rfl rfl ?_
            refine WP.no rfl rfl rfl rfl rfl rfl rfl ?_
            refine WP.no1 (Keep.refl _ _) rfl rfl rfl rfl rfl rfl rfl ?_
            refine WP.no2 rfl rfl rfl rfl rfl rfl rfl ?_
            refine WP.no rfl rfl rfl rfl rfl rfl rfl ?_
            refine WP.no rfl rfl rfl rfl rfl rfl rfl ?_
            refine WP.p rfl rfl rfl rfl (fun _ => Ex.pickT rfl rfl) ?_
            refine WP.p rfl rfl rfl rfl (fun _ => Ex.asg rfl) ?_
            refine WP.nil ?_
            refine WX.join (true) ?_ (.cons rfl (.cons rfl (.cons rfl (.cons rfl (.cons rfl (.cons rfl (.cons rfl (.cons rfl (.cons rfl (.cons rfl (.cons rfl (.cons rfl (.cons rfl (.nil))))))))))))))
            exact ⟨(decide_eq_true ((bes_near hsp (by omega)).2 (.inl ⟨by omega, by omega⟩))).symm, M33⟩
          · rw [decide_eq_false h913]
            refine WP.p rfl rfl rfl rfl (fun _ => Ex.pickT rfl rfl) ?_
            refine WP.p rfl rfl rfl rfl (fun _ => Ex.mv rfl) ?_
            refine WP.py rfl rfl rfl rfl rfl rfl (fun _ => Ex.mv rfl) ?_
            refine WP.py rfl rfl rfl rfl rfl rfl (fun _ => Ex.gtr rfl rfl) ?_
            by_cases h917 : (0 : Int) < (k : Int)
            · rw [decide_eq_true h917]
              refine WP.py rfl rfl rfl rfl rfl rfl (fun _ => Ex.mv rfl) ?_
              refine WP.py rfl rfl rfl rfl rfl rfl (fun _ => Ex.mv rfl) ?_
              refine WP.py rfl rfl rfl rfl rfl rfl (fun _ => Ex.mv rfl) ?_
              refine WP.py rfl rfl rfl rfl rfl rfl (fun _ => Ex.sub rfl rfl (c := ((k - 1 : Nat) : Int)) (by rw [show (k : Int) - 1 = ((k - 1 : Nat) : Int) by omega]; exact i64w _ (by omega) (by omega))) ?_
              refine WP.py rfl rfl rfl rfl rfl rfl (fun _ => Ex.ia Tryd.underlying67 sz23 rfl rfl ⟨by omega, by omega⟩) ?_
              refine WP.py rfl rfl rfl rfl rfl rfl (fun _ => Ex.mv rfl) ?_
              refine WP.qy (Keep.refl _ _) rfl rfl rfl rfl rfl rfl (fun w' hS => Ex.load ty23 rfl (u64_at ((rdP M33 (i := 2) rfl hx).keep0 hS) (k := k - 1) (by omega) (by omega))) ?_
              refine WP.ays rfl rfl rfl rfl rfl rfl (Ac.call rfl Tryd.func69 nm69 rfl (bes_ok w33 (gv ps k) (by omega))) ?_; rintro v50 w50 ⟨rfl, K50⟩
              refine ⟨Keep nof w50, fun u h => K50.trans h, Keep.refl _ _, ?_⟩
              have M50 := M33.step K50
              refine WP.py rfl rfl rfl rfl rfl rfl (fun _ => Ex.eqI rfl rfl) ?_
              by_cases h926 : ((gv ps (k - 1) : Nat) : Int) = ((bes (gv ps k) : Nat) : Int)
              · rw [decide_eq_true h926]
                refine WP.py rfl rfl rfl rfl rfl rfl (fun _ => Ex.pickT rfl rfl) ?_
                refine WP.p rfl rfl rfl rfl (fun _ => Ex.pickF rfl rfl) ?_
                refine WP.p rfl rfl rfl rfl (fun _ => Ex.asg rfl) ?_
                refine WP.nil ?_
                refine WX.join (true) ?_ (.cons rfl (.cons rfl (.cons rfl (.cons rfl (.cons rfl (.cons rfl (.cons rfl (.cons rfl (.cons rfl (.cons rfl (.cons rfl (.cons rfl (.cons rfl (.nil))))))))))))))
                exact ⟨(decide_eq_true ((bes_near hsp (by omega)).2 (.inr ⟨by omega, by omega⟩))).symm, M50⟩
              · rw [decide_eq_false h926]
                refine WP.py rfl rfl rfl rfl rfl rfl (fun _ => Ex.pickT rfl rfl) ?_
                refine WP.p rfl rfl rfl rfl (fun _ => Ex.pickF rfl rfl) ?_
                refine WP.p rfl rfl rfl rfl (fun _ => Ex.asg rfl) ?_
                refine WP.nil ?_
                refine WX.join (false) ?_ (.cons rfl (.cons rfl (.cons rfl (.cons rfl (.cons rfl (.cons rfl (.cons rfl (.cons rfl (.cons rfl (.cons rfl (.cons rfl (.cons rfl (.cons rfl (.nil))))))))))))))
                exact ⟨(decide_eq_false (fun h => by rcases (bes_near hsp (by omega)).1 h with ⟨h1, h2⟩ | ⟨h1, h2⟩ <;> omega)).symm, M50⟩
            · rw [decide_eq_false h917]
              refine WP.py rfl rfl rfl rfl rfl rfl (fun _ => Ex.mv rfl) ?_
              refine WP.no rfl rfl rfl rfl rfl rfl rfl ?_
              refine WP.no rfl rfl rfl rfl rfl rfl rfl ?_
              refine WP.no rfl rfl rfl rfl rfl rfl rfl ?_
              refine WP.no rfl rfl rfl rfl rfl rfl rfl ?_
              refine WP.no rfl rfl rfl rfl rfl rfl rfl ?_
              refine WP.no1 (Keep.refl _ _) rfl rfl rfl rfl rfl rfl rfl ?_
              refine WP.no2 rfl rfl rfl rfl rfl rfl rfl ?_
              refine WP.no rfl rfl rfl rfl rfl rfl rfl ?_
              refine WP.py rfl rfl rfl rfl rfl rfl (fun _ => Ex.pickF rfl rfl) ?_
              refine WP.p rfl rfl rfl rfl (fun _ => Ex.pickF rfl rfl) ?_
              refine WP.p rfl rfl rfl rfl (fun _ => Ex.asg rfl) ?_
              refine WP.nil ?_
              refine WX.join (false) ?_ (.cons rfl (.cons rfl (.cons rfl (.cons rfl (.cons rfl (.cons rfl (.cons rfl (.cons rfl (.cons rfl (.cons rfl (.cons rfl (.cons rfl (.cons rfl (.nil))))))))))))))
              exact ⟨(decide_eq_false (fun h => by rcases (bes_near hsp (by omega)).1 h with ⟨h1, h2⟩ | ⟨h1, h2⟩ <;> omega)).symm, M33⟩
        · rw [decide_eq_false h94]
          refine WP.p rfl rfl rfl rfl (fun _ => Ex.mv rfl) ?_
          refine WP.no rfl rfl rfl rfl rfl rfl rfl ?_
          refine WP.no rfl rfl rfl rfl rfl rfl rfl ?_
          refine WP.no rfl rfl rfl rfl rfl rfl rfl ?_
          refine WP.no rfl rfl rfl rfl rfl rfl rfl ?_
          refine WP.no rfl rfl rfl rfl rfl rfl rfl ?_
          refine WP.no1 (Keep.refl _ _) rfl rfl rfl rfl rfl rfl rfl ?_
          refine WP.no2 rfl rfl rfl rfl rfl rfl rfl ?_
          refine WP.no rfl rfl rfl rfl rfl rfl rfl ?_
          refine WP.p rfl rfl rfl rfl (fun _ => Ex.pickF rfl rfl) ?_
          refine WP.p rfl rfl rfl rfl (fun _ => Ex.mv rfl) ?_
          refine WP.py rfl rfl rfl rfl rfl rfl (fun _ => Ex.mv rfl) ?_
          refine WP.py rfl rfl rfl rfl rfl rfl (fun _ => Ex.gtr rfl rfl) ?_
          by_cases h917 : (0 : Int) < (k : Int)
          · rw [decide_eq_true h917]
            refine WP.py rfl rfl rfl rfl rfl rfl (fun _ => Ex.mv rfl) ?_
            refine WP.py rfl rfl rfl rfl rfl rfl (fun _ => Ex.mv rfl) ?_
            refine WP.py rfl rfl rfl rfl rfl rfl (fun _ => Ex.mv rfl) ?_
            refine WP.py rfl rfl rfl rfl rfl rfl (fun _ => Ex.sub rfl rfl (c := ((k - 1 : Nat) : Int)) (by rw [show (k : Int) - 1 = ((k - 1 : Nat) : Int) by omega]; exact i64w _ (by omega) (by omega))) ?_
            refine WP.py rfl rfl rfl rfl rfl rfl (fun _ => Ex.ia Tryd.underlying67 sz23 rfl rfl ⟨by omega, by omega⟩) ?_
            refine WP.py rfl rfl rfl rfl rfl rfl (fun _ => Ex.mv rfl) ?_
            refine WP.qy (Keep.refl _ _) rfl rfl rfl rfl rfl rfl (fun w' hS => Ex.load ty23 rfl (u64_at ((rdP M20 (i := 2) rfl hx).keep0 hS) (k := k - 1) (by omega) (by omega))) ?_
            refine WP.ays rfl rfl rfl rfl rfl rfl (Ac.call rfl Tryd.func69 nm69 rfl (bes_ok w20 (gv ps k) (by omega))) ?_; rintro v74 w74 ⟨rfl, K74⟩
            refine ⟨Keep nof w74, fun u h => K74.trans h, Keep.refl _ _, ?_⟩
            have M74 := M20.step K74
            refine WP.py rfl rfl rfl rfl rfl rfl (fun _ => Ex.eqI rfl rfl) ?_
            by_cases h926 : ((gv ps (k - 1) : Nat) : Int) = ((bes (gv ps k) : Nat) : Int)
            · rw [decide_eq_true h926]
              refine WP.py rfl rfl rfl rfl rfl rfl (fun _ => Ex.pickT rfl rfl) ?_
              refine WP.p rfl rfl rfl rfl (fun _ => Ex.pickF rfl rfl) ?_
              refine WP.p rfl rfl rfl rfl (fun _ => Ex.asg rfl) ?_
              refine WP.nil ?_
              refine WX.join (true) ?_ (.cons rfl (.cons rfl (.cons rfl (.cons rfl (.cons rfl (.cons rfl (.cons rfl (.cons rfl (.cons rfl (.cons rfl (.cons rfl (.cons rfl (.cons rfl (.nil))))))))))))))
              exact ⟨(decide_eq_true ((bes_near hsp (by omega)).2 (.inr ⟨by omega, by omega⟩))).symm, M74⟩
            · rw [decide_eq_false h926]
              refine WP.py rfl rfl rfl rfl rfl rfl (fun _ => Ex.pickT rfl rfl) ?_
              refine WP.p rfl rfl rfl rfl (fun _ => Ex.pickF rfl rfl) ?_
              refine WP.p rfl rfl rfl rfl (fun _ => Ex.asg rfl) ?_
              refine WP.nil ?_
              refine WX.join (false) ?_ (.cons rfl (.cons rfl (.cons rfl (.cons rfl (.cons rfl (.cons rfl (.cons rfl (.cons rfl (.cons rfl (.cons rfl (.cons rfl (.cons rfl (.cons rfl (.nil))))))))))))))
              exact ⟨(decide_eq_false (fun h => by rcases (bes_near hsp (by omega)).1 h with ⟨h1, h2⟩ | ⟨h1, h2⟩ <;> omega)).symm, M74⟩
          · rw [decide_eq_false h917]
            refine WP.py rfl rfl rfl rfl rfl rfl (fun _ => Ex.mv rfl) ?_
            refine WP.no rfl rfl rfl rfl rfl rfl rfl ?_
            refine WP.no rfl rfl rfl rfl rfl rfl rfl ?_
            refine WP.no rfl rfl rfl rfl rfl rfl rfl ?_
            refine WP.no rfl rfl rfl rfl rfl rfl rfl ?_
            refine WP.no rfl rfl rfl rfl rfl rfl rfl ?_
            refine WP.no1 (Keep.refl _ _) rfl rfl rfl rfl rfl rfl rfl ?_
            refine WP.no2 rfl rfl rfl rfl rfl rfl rfl ?_
            refine WP.no rfl rfl rfl rfl rfl rfl rfl ?_
            refine WP.py rfl rfl rfl rfl rfl rfl (fun _ => Ex.pickF rfl rfl) ?_
            refine WP.p rfl rfl rfl rfl (fun _ => Ex.pickF rfl rfl) ?_
            refine WP.p rfl rfl rfl rfl (fun _ => Ex.asg rfl) ?_
            refine WP.nil ?_
            refine WX.join (false) ?_ (.cons rfl (.cons rfl (.cons rfl (.cons rfl (.cons rfl (.cons rfl (.cons rfl (.cons rfl (.cons rfl (.cons rfl (.cons rfl (.cons rfl (.cons rfl (.nil))))))))))))))
            exact ⟨(decide_eq_false (fun h => by rcases (bes_near hsp (by omega)).1 h with ⟨h1, h2⟩ | ⟨h1, h2⟩ <;> omega)).symm, M20⟩
      · rintro bb w86 ⟨hbb, M86⟩
        refine WC.cut (σ := Value × Hs) (fun s => [(1, .slice A (List.length ls1) c), (2, .slice (some ⟨b0, o0, none⟩) (List.length ps) c0), (7, s.1), (8, .int .i64 (l : Int)), (9, vu), (10, .int .i64 (k : Int)), (11, .int .u64 (gv ps (k) : Int)), (13, .int .i64 (d : Int)), (14, .int .i64 (l : Int)), (17, .slice (some ⟨b0, o0, none⟩) (List.length ps) c0), (18, .int .i64 (List.length ps : Int)), (19, .int .i64 (k : Int))]) (fun s wr => s.2 = out ++ outs (fun q0 q1 => nd dNode e0 ls1 q0 q1) l ps (k + 1) ∧ Mem w wr nof [row vu 23 1 (List.length up) (u64V up), row s.1 31 32 (List.length s.2) (fl s.2), optR own (row (.slice (some ⟨b0, o0, none⟩) (List.length ps) c0) 23 1 (List.length ps) (u64V ps))]) ?_ ?_
        ·
          refine WC.seq ?_
          refine WC.region ?_
          refine WL.ex rfl rfl rfl (Ex.mv rfl) ?_
          refine WL.ex rfl rfl rfl (Ex.not rfl) ?_
          refine WL.nil ?_
          refine WX.next (?_)
          refine WC.cond rfl (fun h54 => ?_) (fun h54 => ?_)
          · have hnm : bes (gv ps k) ∉ ps := by rw [hbb] at h54; simpa using h54
            have hx32 := nd32 h132 l (bes (gv ps k))
            have hos := outs_yes (fun q0 q1 => nd dNode e0 ls1 q0 q1) l (show k < List.length ps by omega) hnm
            have hool := outs_len (fun q0 q1 => nd dNode e0 ls1 q0 q1) l ps k
            refine WC.region ?_
            refine WL.ex rfl rfl rfl (Ex.mv rfl) ?_
            refine WL.ex rfl rfl rfl (Ex.mv rfl) ?_
            refine WL.ex rfl rfl rfl (Ex.mv rfl) ?_
            refine WL.ex rfl rfl rfl (Ex.mv rfl) ?_
            refine WL.ac rfl rfl rfl (Ac.call rfl Tryd.func69 nm69 rfl (bes_ok w86 (gv ps k) (by omega))) ?_; rintro v93 w93 ⟨rfl, K93⟩
            have M93 := M86.step K93
            refine WL.ac rfl rfl rfl (Ac.call rfl Tryd.func15 nm15 rfl (rNode_ok w93 A c ls1 l (bes (gv ps k)) (hrl.keep0 M93.keep) h132 hll (by omega) hbp.2 (hR.keep0 M93.keep))) ?_; rintro v94 w94 ⟨rfl, K94⟩
            have M94 := M93.step K94
            refine WL.ac rfl rfl rfl (Ac.bs M94 (parts := [(0, .tmp 60)]) rfl rfl (LitS.agg1 el39 rfl (h32_len hx32) (by decide))) ?_; rintro v95 w95 ⟨gs, rfl, hg95, K95, M95⟩
            refine WL.ac rfl rfl rfl (Ac.app M95 el39 rfl rfl (i := 2) rfl (by rw [h32_len hx32]) (M95.rdw (i := 0) rfl) (bytesV_one _) (by rw [hob, List.length_append]; omega) (by rw [hob, List.length_append]; unfold maxLen; omega)) ?_; rintro v96 w96 ⟨K96, M96⟩
            try dsimp only [List.set] at M96
            rw [show fl ob ++ bytesV (nd dNode e0 ls1 l (bes (gv ps k))) = fl (ob ++ [nd dNode e0 ls1 l (bes (gv ps k))]) by simp [fl], show ob.length + 1 = (ob ++ [nd dNode e0 ls1 l (bes (gv ps k))]).length by simp] at M96
            refine WL.ex rfl rfl rfl (Ex.asg rfl) ?_
            refine WL.nil ?_
            refine WX.join (((v96, ob ++ [nd dNode e0 ls1 l (bes (gv ps k))]) : Value × Hs)) ?_ (.cons rfl (.cons rfl (.cons rfl (.cons rfl (.cons rfl (.cons rfl (.cons rfl (.cons rfl (.cons rfl (.cons rfl (.cons rfl (.cons rfl (.nil)))))))))))))
            exact ⟨by dsimp only; rw [hos, hob, List.append_assoc], (Mem.pick M96 [1, 2, 3] (by decide) rfl)⟩
          · have hnm : bes (gv ps k) ∈ ps := by rw [hbb] at h54; simpa using h54
            have hos := outs_no (fun q0 q1 => nd dNode e0 ls1 q0 q1) l (show k < List.length ps by omega) hnm
            refine WC.skip ?_
            refine WX.join (((v2, ob) : Value × Hs)) ?_ (.cons rfl (.cons rfl (.cons rfl (.cons rfl (.cons rfl (.cons rfl (.cons rfl (.cons rfl (.cons rfl (.cons rfl (.cons rfl (.cons rfl (.nil)))))))))))))
            exact ⟨by dsimp only; rw [hos, hob], M86⟩
        · rintro ⟨v3, ob3⟩ w98 ⟨hob3, M98⟩
          dsimp only at hob3 M98
          refine WC.sub (env' := [(1, .slice A (List.length ls1) c), (2, .slice (some ⟨b0, o0, none⟩) (List.length ps) c0), (7, v3), (8, .int .i64 (l : Int)), (9, vu), (10, .int .i64 (k : Int)), (11, .int .u64 (gv ps (k) : Int)), (13, .int .i64 (d : Int)), (14, .int .i64 (l : Int)), (17, .slice (some ⟨b0, o0, none⟩) (List.length ps) c0), (18, .int .i64 (List.length ps : Int)), (19, .int .i64 (k : Int))]) (.cons rfl (.cons rfl (.cons rfl (.cons rfl (.cons rfl (.cons rfl (.cons rfl (.cons rfl (.cons rfl (.cons rfl (.cons rfl (.cons rfl (.nil))))))))))))) ?_
          refine WC.seq ?_
          refine WC.region ?_
          refine WL.ex rfl rfl rfl (Ex.mv rfl) ?_
          refine WL.ex rfl rfl rfl (Ex.eqI rfl rfl) ?_
          by_cases h121 : (k : Int) = 0
          · rw [decide_eq_true h121]
            have hup2 := hup.yes hsp (show k < List.length ps by omega) (.inl (by omega))
            refine WL.ex rfl rfl rfl (Ex.mv rfl) ?_
            refine WL.no rfl rfl rfl rfl rfl rfl ?_
            refine WL.no rfl rfl rfl rfl rfl rfl ?_
            refine WL.no rfl rfl rfl rfl rfl rfl ?_
            refine WL.no rfl rfl rfl rfl rfl rfl ?_
            refine WL.no rfl rfl rfl rfl rfl rfl ?_
            have hgk1 := hpg (k - 1) (by omega)
            refine WL.no rfl rfl rfl rfl rfl rfl ?_
            refine WL.no rfl rfl rfl rfl rfl rfl ?_
            refine WL.no rfl rfl rfl rfl rfl rfl ?_
            refine WL.no rfl rfl rfl rfl rfl rfl ?_
            refine WL.ex rfl rfl rfl (Ex.pickT rfl rfl) ?_
            refine WL.nil ?_
            refine WX.next (?_)
            refine WC.yes rfl ?_
            refine WC.region ?_
            refine WL.ex rfl rfl rfl (Ex.mv rfl) ?_
            refine WL.ex rfl rfl rfl (Ex.mv rfl) ?_
            refine WL.ex rfl rfl rfl (Ex.quo rfl rfl (by omega) (c := (((gv ps k) / 2 : Nat) : Int)) (by rw [Int.tdiv_eq_ediv_of_nonneg (by omega), show ((gv ps k : Nat) : Int) / 2 = (((gv ps k) / 2 : Nat) : Int) by omega]; exact u64w_lt _ (by omega))) ?_
            refine WL.ac rfl rfl rfl (Ac.bs M98 (parts := [(0, .tmp 78)]) (l := u64V [gv ps k / 2]) rfl rfl (LitS.one el67 rfl)) ?_; rintro v106 w106 ⟨gs, rfl, hg106, K106, M106⟩
            refine WL.ac rfl rfl rfl (Ac.app M106 el67 rfl rfl (i := 1) rfl (by simp) (M106.rdw (i := 0) rfl) (u64V_one _) (by omega) (by unfold maxLen; omega)) ?_; rintro v107 w107 ⟨K107, M107⟩
            try dsimp only [List.set] at M107
            rw [← u64V_append, show up.length + 1 = (up ++ [gv ps k / 2]).length by simp] at M107
            refine WL.ex rfl rfl rfl (Ex.asg rfl) ?_
            refine WL.nil ?_
            refine WX.normal_block (WX.next (?_))
            refine WC.region ?_
            refine WL.ex rfl rfl rfl (Ex.add rfl rfl (c := ((k + 1 : Nat) : Int)) (wrapN (by omega) (by omega))) ?_
            refine WL.ex rfl rfl rfl (Ex.mv rfl) ?_
            refine WL.nil ?_
            refine WX.again (((k + 1, v107, up ++ [gv ps k / 2], v3, ob3) : Nat × Value × List Nat × Value × Hs)) ?_ ?_ (.cons rfl (.cons rfl (.cons rfl (.cons rfl (.cons rfl (.cons rfl (.cons rfl (.cons rfl (.cons rfl (.cons rfl (.nil)))))))))))
            · dsimp only; omega
            · exact ⟨by dsimp only; omega, hup2, by first | (dsimp only; omega) | (simp; omega), hob3, (Mem.sub M107 (.cons _ (.refl _)))⟩
          · rw [decide_eq_false h121]
            refine WL.ex rfl rfl rfl (Ex.mv rfl) ?_
            refine WL.yes rfl rfl rfl rfl ?_
            refine WL.ex rfl rfl rfl (Ex.mv rfl) ?_
            refine WL.yes rfl rfl rfl rfl ?_
            refine WL.ex rfl rfl rfl (Ex.mv rfl) ?_
            refine WL.yes rfl rfl rfl rfl ?_
            refine WL.ex rfl rfl rfl (Ex.sub rfl rfl (c := ((k - 1 : Nat) : Int)) (by rw [show (k : Int) - 1 = ((k - 1 : Nat) : Int) by omega]; exact i64w _ (by omega) (by omega))) ?_
            refine WL.yes rfl rfl rfl rfl ?_
            refine WL.ex rfl rfl rfl (Ex.ia Tryd.underlying67 sz23 rfl rfl ⟨by omega, by omega⟩) ?_
            refine WL.yes rfl rfl rfl rfl ?_
            refine WL.ex rfl rfl rfl (Ex.load ty23 rfl (u64_at (rdP M98 (i := 2) rfl hx) (k := k - 1) (by omega) (by omega))) ?_
            have hgk1 := hpg (k - 1) (by omega)
            refine WL.yes rfl rfl rfl rfl ?_
            refine WL.ex rfl rfl rfl (Ex.quo rfl rfl (by omega) (c := (((gv ps (k - 1)) / 2 : Nat) : Int)) (by rw [Int.tdiv_eq_ediv_of_nonneg (by omega), show ((gv ps (k - 1) : Nat) : Int) / 2 = (((gv ps (k - 1)) / 2 : Nat) : Int) by omega]; exact u64w_lt _ (by omega))) ?_
            refine WL.yes rfl rfl rfl rfl ?_
            refine WL.ex rfl rfl rfl (Ex.mv rfl) ?_
            refine WL.yes rfl rfl rfl rfl ?_
            refine WL.ex rfl rfl rfl (Ex.quo rfl rfl (by omega) (c := (((gv ps k) / 2 : Nat) : Int)) (by rw [Int.tdiv_eq_ediv_of_nonneg (by omega), show ((gv ps k : Nat) : Int) / 2 = (((gv ps k) / 2 : Nat) : Int) by omega]; exact u64w_lt _ (by omega))) ?_
            refine WL.yes rfl rfl rfl rfl ?_
            refine WL.ex rfl rfl rfl (Ex.neI rfl rfl) ?_
            by_cases h1211 : ¬ ((gv ps (k - 1) / 2 : Nat) : Int) = ((gv ps k / 2 : Nat) : Int)
            · rw [decide_eq_false h1211]
              have hup2 := hup.yes hsp (show k < List.length ps by omega) (.inr (by omega))
              refine WL.ex rfl rfl rfl (Ex.pickF rfl rfl) ?_
              refine WL.nil ?_
              refine WX.next (?_)
              refine WC.yes rfl ?_
              refine WC.region ?_
              refine WL.ex rfl rfl rfl (Ex.mv rfl) ?_
              refine WL.ex rfl rfl rfl (Ex.mv rfl) ?_
              refine WL.ex rfl rfl rfl (Ex.quo rfl rfl (by omega) (c := (((gv ps k) / 2 : Nat) : Int)) (by rw [Int.tdiv_eq_ediv_of_nonneg (by omega), show ((gv ps k : Nat) : Int) / 2 = (((gv ps k) / 2 : Nat) : Int) by omega]; exact u64w_lt _ (by omega))) ?_
              refine WL.ac rfl rfl rfl (Ac.bs M98 (parts := [(0, .tmp 78)]) (l := u64V [gv ps k / 2]) rfl rfl (LitS.one el67 rfl)) ?_; rintro v125 w125 ⟨gs, rfl, hg125, K125, M125⟩
              refine WL.ac rfl rfl rfl (Ac.app M125 el67 rfl rfl (i := 1) rfl (by simp) (M125.rdw (i := 0) rfl) (u64V_one _) (by omega) (by unfold maxLen; omega)) ?_; rintro v126 w126 ⟨K126, M126⟩
              try dsimp only [List.set] at M126
              rw [← u64V_append, show up.length + 1 = (up ++ [gv ps k / 2]).length by simp] at M126
              refine WL.ex rfl rfl rfl (Ex.asg rfl) ?_
              refine WL.nil ?_
              refine WX.normal_block (WX.next (?_))
              refine WC.region ?_
              refine WL.ex rfl rfl rfl (Ex.add rfl rfl (c := ((k + 1 : Nat) : Int)) (wrapN (by omega) (by omega))) ?_
              refine WL.ex rfl rfl rfl (Ex.mv rfl) ?_
              refine WL.nil ?_
              refine WX.again (((k + 1, v126, up ++ [gv ps k / 2], v3, ob3) : Nat × Value × List Nat × Value × Hs)) ?_ ?_ (.cons rfl (.cons rfl (.cons rfl (.cons rfl (.cons rfl (.cons rfl (.cons rfl (.cons rfl (.cons rfl (.cons rfl (.nil)))))))))))
              · dsimp only; omega
              · exact ⟨by dsimp only; omega, hup2, by first | (dsimp only; omega) | (simp; omega), hob3, (Mem.sub M126 (.cons _ (.refl _)))⟩
            · rw [decide_eq_true (Decidable.not_not.1 h1211)]
              have hup2 := hup.no (by omega) (show gv ps (k - 1) / 2 = gv ps k / 2 by omega)
              refine WL.ex rfl rfl rfl (Ex.pickF rfl rfl) ?_
              refine WL.nil ?_
              refine WX.next (?_)
              refine WC.no rfl ?_
              refine WC.skip ?_
              refine WX.normal_block (WX.next (?_))
              refine WC.region ?_
              refine WL.ex rfl rfl rfl (Ex.add rfl rfl (c := ((k + 1 : Nat) : Int)) (wrapN (by omega) (by omega))) ?_
              refine WL.ex rfl rfl rfl (Ex.mv rfl) ?_
              refine WL.nil ?_
              refine WX.again (((k + 1, vu, up, v3, ob3) : Nat × Value × List Nat × Value × Hs)) ?_ ?_ (.cons rfl (.cons rfl (.cons rfl (.cons rfl (.cons rfl (.cons rfl (.cons rfl (.cons rfl (.cons rfl (.cons rfl (.nil)))))))))))
              · dsimp only; omega
              · exact ⟨by dsimp only; omega, hup2, by first | (dsimp only; omega) | (simp; omega), hob3, M98⟩
    · obtain rfl : k = List.length ps := by omega
      have hue := hup.fin hsp
      rw [outs_fin _ _ hsp] at hob
      have hupl := ups_len ps
      rw [← hue] at hupl
      have hub : ∀ z ∈ up, z < 2 ^ (d - (l + 1)) := by
        rw [hue]
        exact ups_lt (by rw [show d - (l + 1) + 1 = d - l by omega]; exact hpb)
      have hol2 : ob.length = out.length + (sibL (fun q0 q1 => nd dNode e0 ls1 q0 q1) l ps).length := by rw [hob, List.length_append]
      have hsl := sibL_len (fun q0 q1 => nd dNode e0 ls1 q0 q1) l ps
      have hcl := cntL_le ps
      have hout2 : ob ++ sibs (fun q0 q1 => nd dNode e0 ls1 q0 q1) (d - (l + 1)) (l + 1) up = sibs (fun q0 q1 => nd dNode e0 ls1 q0 q1) d 0 zs := by
        rw [← hout, show d - l = d - (l + 1) + 1 by omega, sibs, hob, hue, List.append_assoc]
      obtain ⟨A2, c3, rfl⟩ := own_slice (M13.get (i := 0) rfl)
      obtain ⟨g2, rfl⟩ := own_some (M13.get (i := 0) rfl) (by omega)
      refine WC.exit ?_
      refine WX.exit_then (WX.exit_then (WX.exit_block (WX.next (?_))))
      refine WC.region ?_
      refine WL.ex rfl rfl rfl (Ex.mv rfl) ?_
      refine WL.ex rfl rfl rfl (Ex.asg rfl) ?_
      refine WL.nil ?_
      refine WX.normal_block (WX.next (?_))
      refine WC.region ?_
      refine WL.ex rfl rfl rfl (Ex.add rfl rfl (c := ((l + 1 : Nat) : Int)) (wrapN (by omega) (by omega))) ?_
      refine WL.ex rfl rfl rfl (Ex.mv rfl) ?_
      refine WL.nil ?_
      refine WX.again (((l + 1, true, g2, 0, c3, up, v2, ob) : Nat × Bool × Nat × Nat × Nat × List Nat × Value × Hs)) ?_ ?_ (.cons rfl (.cons rfl (.cons rfl (.cons rfl (.cons rfl (.nil))))))
      · dsimp only; omega
      · exact ⟨by dsimp only; omega, by dsimp only; omega, by dsimp only; omega, hup.si, hub, (fun h => by cases h), by dsimp only; omega, hout2, (Mem.sub M13 (.cons_cons _ (.cons_cons _ (List.nil_sublist _))))⟩
  · have hend : out = sibs (fun q0 q1 => nd dNode e0 ls1 q0 q1) d 0 zs := by
      rw [← hout, show d - l = 0 by omega, sibs, List.append_nil]
    refine WC.exit ?_
    refine WX.exit_then (WX.exit_then (WX.exit_block (WX.next (?_))))
    refine WC.seq ?_
    refine WC.region ?_
    refine WL.ex rfl rfl rfl (Ex.mv rfl) ?_
    refine WL.ex rfl rfl rfl (Ex.asg rfl) ?_
    refine WL.nil ?_
    refine WX.next (?_)
    refine WC.ret ?_
    refine WX.ret1 rfl rfl ?_
    rw [hend] at M5
    have Mf : Mem w w5 nof [row v 31 32 (List.length (sibs (fun q0 q1 => nd dNode e0 ls1 q0 q1) d 0 zs)) (fl (sibs (fun q0 q1 => nd dNode e0 ls1 q0 q1) d 0 zs))] := (Mem.sub M5 (.cons _ (.refl _)))
    exact Mf.toNew

end Go.Proofs.YtchmjpdkonfifaaDoor

set_option linter.unusedVariables false
set_option linter.unusedSimpArgs false
namespace Go.Proofs.YtchmjpdkonfifaaDoor
open Go.Sx Go.RowKit
attribute [local irreducible] Ac Ex WL WC WX WP Gives sha

theorem sibL32 {ls : Hs} (h : ∀ a ∈ ls, H32 a) (l : Nat) : ∀ zs : List Nat, ∀ a ∈ sibL (fun q0 q1 => nd dNode e0 ls q0 q1) l zs, H32 a
  | [], a, ha => by cases ha
  | [i], a, ha => by
    obtain rfl := List.mem_singleton.1 ha
    exact nd32 h l _
  | i :: k :: r, a, ha => by
    rw [sibL] at ha
    split at ha
    · exact sibL32 h l r a ha
    · rcases List.mem_cons.1 ha with rfl | ha
      · exact nd32 h l _
      · exact sibL32 h l (k :: r) a ha
theorem sibs32 {ls : Hs} (h : ∀ a ∈ ls, H32 a) : ∀ (d l : Nat) (zs : List Nat), ∀ a ∈ sibs (fun q0 q1 => nd dNode e0 ls q0 q1) d l zs, H32 a
  | 0, _, _, a, ha => by cases ha
  | d + 1, l, zs, a, ha => by
    rw [sibs] at ha
    rcases List.mem_append.1 ha with ha | ha
    · exact sibL32 h l zs a ha
    · exact sibs32 h d (l + 1) _ a ha

/- sponsion/sponsionlaw33.MultiMakes -/
theorem multiMakes_walk (w : World) (x : Nat) (A : Option Addr) (c : Nat) (ls0 : Hs) (n : Nat) (B : Option Addr) (c2 : Nat) (xs : List Nat) (hx : x < 256) (hr0 : Rd w A (fl ls0)) (hls0 : ∀ a ∈ ls0, H32 a) (hc : ls0.length ≤ c) (hcm : c ≤ maxLen) (hn : n < 18446744073709551616) (hr : Rd w B (u64V xs)) (hxs : ∀ v ∈ xs, v < 18446744073709551616) (hT : Tabs w) (hR : TabR w) :
    Gives Tryd.prog 6 #[.int .u8 (x : Int), .slice A ls0.length c, .int .u64 (n : Int), .slice B xs.length c2] w fun u w1 => u = .bool true ∧ Keep nof w w1 := by
  have M0 := Mem.start w nof
  obtain ⟨d, hd⟩ : ∃ d, d = x % 33 := ⟨_, rfl⟩
  have hd32 : d ≤ 32 := by omega
  have hp2 := pow32 hd32
  have hxg := gv_lt hxs (by decide)
  refine Gives.enter (n := 144) Tryd.func6 rfl Tryd.ntmps6 rfl (env := [(0, .int .u8 (x : Int)), (1, .slice A ls0.length c), (2, .int .u64 (n : Int)), (3, .slice B xs.length c2)]) rfl ?_
  refine WC.seq ?_
  refine WC.region ?_
  refine WL.ex rfl rfl rfl (Ex.asg rfl) ?_
  refine WL.nil ?_
  refine WX.next (?_)
  refine WC.seq ?_
  refine WC.seq ?_
  refine WC.region ?_
  refine WL.ac rfl rfl rfl (Ac.call rfl Tryd.func29 nm29 rfl (lives33_ok w (hT.keep M0.keep))) ?_; rintro v2 w2 ⟨rfl, K2⟩
  have M2 := M0.step K2
  refine WL.ex rfl rfl rfl (Ex.not rfl) ?_
  refine WL.ex rfl rfl rfl (Ex.mv rfl) ?_
  refine WL.yes rfl rfl rfl rfl ?_
  refine WL.ex rfl rfl rfl (Ex.mv rfl) ?_
  refine WL.yes rfl rfl rfl rfl ?_
  refine WL.ex rfl rfl rfl (Ex.len Tryd.underlying67 rfl) ?_
  refine WL.yes rfl rfl rfl rfl ?_
  refine WL.ex rfl rfl rfl (Ex.gtr rfl rfl) ?_
  refine WL.ex rfl rfl rfl (Ex.pickF rfl rfl) ?_
  refine WL.nil ?_
  refine WX.next (?_)
  refine WC.cond_dec rfl (fun hc30 => ?_) (fun hc30 => ?_)
  · skip
    refine WC.seq ?_
    refine WC.region ?_
    refine WL.ac rfl rfl rfl (Ac.call rfl Tryd.func29 nm29 rfl (lives33_ok w2 (hT.keep M2.keep))) ?_; rintro v9 w9 ⟨rfl, K9⟩
    have M9 := M2.step K9
    refine WL.ex rfl rfl rfl (Ex.asg rfl) ?_
    refine WL.nil ?_
    refine WX.next (?_)
    refine WC.ret ?_
    refine WX.ret_then (?_)
    refine WX.ret1 rfl rfl ?_
    exact ⟨rfl, M9.keep⟩
  · have hn20 : xs.length ≤ 20 := by omega
    refine WC.skip ?_
    refine WX.next (?_)
    refine WC.seq ?_
    refine WC.region ?_
    refine WL.ex rfl rfl rfl (Ex.mv rfl) ?_
    refine WL.ex rfl rfl rfl (Ex.mv rfl) ?_
    refine WL.ac rfl rfl rfl (Ac.call rfl Tryd.func30 nm30 rfl (made33_ok w2 x A c ls0 hx (M2.rd hr0) hls0 hc hcm (hT.keep M2.keep))) ?_; rintro v13 w13 ⟨g, gl, ge, vs, ls, rfl, hlse, N13⟩
    rw [← hd] at hlse N13 ⊢
    have M13 := (M2.new N13).openS
    obtain ⟨q, hq⟩ : ∃ q, q = min (min ls0.length 20) (2 ^ d) := ⟨_, rfl⟩
    rw [← hq] at hlse
    have hlq : ls.length = q := by rw [hlse, List.length_take]; omega
    have hls : ∀ a ∈ ls, H32 a := by rw [hlse]; exact take32 hls0 q
    have hrl : Rd w A (fl ls) := by rw [hlse, fl_take hls0]; exact hr0.take _
    have hl20 : ls.length ≤ 20 := by omega
    have hld : ls.length ≤ 2 ^ d := by omega
    have hlc : ls.length ≤ c := by omega
    refine WL.ex rfl rfl rfl (Ex.mv rfl) ?_
    refine WL.ex rfl rfl rfl (Ex.ext rfl rfl) ?_
    refine WL.ex rfl rfl rfl (Ex.ext rfl rfl) ?_
    refine WL.ex rfl rfl rfl (Ex.ext rfl rfl) ?_
    refine WL.ex rfl rfl rfl (Ex.asg rfl) ?_
    refine WL.ex rfl rfl rfl (Ex.asg rfl) ?_
    refine WL.ex rfl rfl rfl (Ex.asg rfl) ?_
    refine WL.nil ?_
    refine WX.next (?_)
    refine WC.seq ?_
    refine WC.region ?_
    refine WL.ex rfl rfl rfl (Ex.mv rfl) ?_
    refine WL.ex rfl rfl rfl (Ex.mv rfl) ?_
    refine WL.ex rfl rfl rfl (Ex.mv rfl) ?_
    refine WL.ac rfl rfl rfl (Ac.call rfl Tryd.func31 nm31 rfl (make_ok w13 g gl ge d n c2 vs ls B xs (M13.get (i := 1) rfl) (M13.get (i := 0) rfl) hls (by omega) (by omega) hd32 (hT.keep M13.keep) (M13.rd hr) hxg (by omega))) ?_; rintro v24 w24 ⟨va, vb, e, zs, hs, rfl, N24, hq⟩
    have M24 := (M13.new N24).openS
    obtain ⟨Aa, ca, rfl⟩ := own_slice (M24.get (i := 0) rfl)
    obtain ⟨Ab, cb, rfl⟩ := own_slice (M24.get (i := 1) rfl)
    refine WL.ex rfl rfl rfl (Ex.mv rfl) ?_
    refine WL.ex rfl rfl rfl (Ex.ext rfl rfl) ?_
    refine WL.ex rfl rfl rfl (Ex.ext rfl rfl) ?_
    refine WL.ac rfl rfl rfl (Ac.alloc M24 (l := [.slice none 0 0, .slice none 0 0]) (by kernel_rfl)) ?_; rintro v28 w28 ⟨gb, rfl, hg28, K28, M28⟩
    refine WL.ac0 rfl rfl (Ac.stA M28 ty72 rfl rfl (vs := [.slice Aa (List.length zs) ca, .slice Ab (List.length hs) cb]) rfl rfl (by intro u hu; simp at hu; rcases hu with rfl | rfl <;> rfl) (i := 0) rfl (by simp)) ?_; rintro v29 w29 ⟨K29, M29⟩
    try dsimp only [List.set] at M29
    try dsimp only [List.set] at M29
    rw [splice_all _ _ (by simp)] at M29
    refine WL.ex rfl rfl rfl (Ex.asg rfl) ?_
    refine WL.nil ?_
    refine WX.next (?_)
    refine WC.seq ?_
    refine WC.region ?_
    refine WL.ex rfl rfl rfl (Ex.mv rfl) ?_
    refine WL.ac rfl rfl rfl (Ac.call rfl Tryd.func31 nm31 rfl (makeN_ok w29 0 c2 xs.length B)) ?_; rintro v32 w32 ⟨rfl, K32⟩
    have M32 := M29.step K32
    refine WL.ex rfl rfl rfl (Ex.mv rfl) ?_
    refine WL.ex rfl rfl rfl (Ex.ext rfl rfl) ?_
    refine WL.ex rfl rfl rfl (Ex.ext rfl rfl) ?_
    refine WL.ac rfl rfl rfl (Ac.alloc M32 (l := [.slice none 0 0, .slice none 0 0]) (by kernel_rfl)) ?_; rintro v36 w36 ⟨gb2, rfl, hg36, K36, M36⟩
    refine WL.ac0 rfl rfl (Ac.stA M36 ty72 rfl rfl (vs := [.slice none 0 0, .slice none 0 0]) rfl rfl (by intro u hu; simp at hu; rcases hu with rfl | rfl <;> rfl) (i := 0) rfl (by simp)) ?_; rintro v37 w37 ⟨K37, M37⟩
    try dsimp only [List.set] at M37
    try dsimp only [List.set] at M37
    rw [splice_all _ _ (by simp)] at M37
    refine WL.ex rfl rfl rfl (Ex.asg rfl) ?_
    refine WL.nil ?_
    refine WX.next (?_)
    refine WC.seq ?_
    refine WC.region ?_
    refine WL.ex rfl rfl rfl (Ex.asg rfl) ?_
    refine WL.nil ?_
    refine WX.next (?_)
    refine WC.seq ?_
    refine WC.seq ?_
    refine WC.region ?_
    refine WL.ex rfl rfl rfl (Ex.mv rfl) ?_
    refine WL.ex rfl rfl rfl (Ex.len Tryd.underlying67 rfl) ?_
    refine WL.ex rfl rfl rfl (Ex.mv rfl) ?_
    refine WL.nil ?_
    refine WX.next (?_)
    refine WC.block ?_
    refine WC.loop (σ := Nat) (fun i => [(2, .int .u64 (n : Int)), (3, .slice B xs.length c2), (9, .int .i64 (d : Int)), (10, .slice A (List.length ls) c), (12, .pointer (some ⟨gb, 0, none⟩)), (13, .int .i64 e), (15, .int .i64 1), (16, .int .u64 (mxp xs i : Int)), (51, .slice B xs.length c2), (52, .int .i64 (xs.length : Int)), (53, .int .i64 (i : Int))]) (fun i wr => i ≤ xs.length ∧ Mem w wr nof [blk gb [.slice Aa (List.length zs) ca, .slice Ab (List.length hs) cb] 72, row (.slice Aa (List.length zs) ca) 23 1 (List.length zs) (u64V zs), row (.slice Ab (List.length hs) cb) 31 32 (List.length hs) (fl hs)]) (fun i => xs.length - i) (0) ?_ (.cons rfl (.cons rfl (.cons rfl (.cons rfl (.cons rfl (.cons rfl (.cons rfl (.cons rfl (.cons rfl (.cons rfl (.cons rfl (.nil)))))))))))) ?_
    · exact ⟨by omega, (Mem.sub M37 (.cons _ (.cons_cons _ (.cons_cons _ (.cons_cons _ (List.nil_sublist _))))))⟩
    rintro i w43 ⟨hi, M43⟩
    refine WC.seq ?_
    refine WC.region ?_
    refine WL.ex rfl rfl rfl (Ex.lss rfl rfl) ?_
    refine WL.nil ?_
    refine WX.next (?_)
    refine WC.seq ?_
    refine WC.cond_dec rfl (fun hc54 => ?_) (fun hc54 => ?_)
    · obtain ⟨b0, o0, hA, _⟩ := hr.plain (by simp; omega)
      subst hA
      refine WC.skip ?_
      refine WX.next (?_)
      refine WC.seq ?_
      refine WC.block ?_
      refine WC.seq ?_
      refine WC.region ?_
      refine WL.ex rfl rfl rfl (Ex.ia Tryd.underlying67 sz23 rfl rfl ⟨by omega, by omega⟩) ?_
      refine WL.ex rfl rfl rfl (Ex.load ty23 rfl (u64_at (M43.rd hr) (k := i) (by omega) (by omega))) ?_
      refine WL.ex rfl rfl rfl (Ex.asg rfl) ?_
      refine WL.nil ?_
      refine WX.next (?_)
      refine WC.region ?_
      refine WL.ex rfl rfl rfl (Ex.mv rfl) ?_
      refine WL.ex rfl rfl rfl (Ex.mv rfl) ?_
      refine WL.ex rfl rfl rfl (Ex.max2 rfl rfl (c := ((mxp xs (i + 1) : Nat) : Int)) (by rw [show mxp xs (i + 1) = max (mxp xs i) (gv xs i) from rfl]; split <;> omega)) ?_
      refine WL.ex rfl rfl rfl (Ex.asg rfl) ?_
      refine WL.nil ?_
      refine WX.normal_block (WX.next (?_))
      refine WC.region ?_
      refine WL.ex rfl rfl rfl (Ex.add rfl rfl (i64w _ (by omega) (by omega))) ?_
      refine WL.ex rfl rfl rfl (Ex.mv rfl) ?_
      refine WL.nil ?_
      refine WX.again (i + 1) ?_ ?_ (.cons rfl (.cons rfl (.cons rfl (.cons rfl (.cons rfl (.cons rfl (.cons rfl (.cons rfl (.cons rfl (.cons rfl (.cons rfl (.nil))))))))))))
      · omega
      · exact ⟨by omega, M43⟩
    · obtain rfl : i = xs.length := by omega
      refine WC.exit ?_
      refine WX.exit_then (WX.exit_then (WX.exit_block (WX.next (?_))))
      refine WC.seq ?_
      refine WC.region ?_
      refine WL.ex rfl rfl rfl (Ex.asg rfl) ?_
      refine WL.nil ?_
      refine WX.next (?_)
      refine WC.seq ?_
      refine WC.block ?_
      refine WC.seq ?_
      refine WC.region ?_
      refine WL.ex rfl rfl rfl (Ex.mv rfl) ?_
      refine WL.ex rfl rfl rfl (Ex.mv rfl) ?_
      refine WL.ex rfl rfl rfl (Ex.len Tryd.underlying39 rfl) ?_
      refine WL.ex rfl rfl rfl (Ex.cvI Tryd.underlying3 Tryd.underlying23 rfl (u64w_lt _ (by omega))) ?_
      refine WL.ex rfl rfl rfl (Ex.gtr rfl rfl) ?_
      refine WL.ex rfl rfl rfl (Ex.asg rfl) ?_
      refine WL.nil ?_
      refine WX.next (?_)
      refine WC.cond_dec rfl (fun h61 => ?_) (fun h61 => ?_)
      · rw [if_pos (show ls.length < n by omega)] at hq
        obtain ⟨rfl, rfl, rfl⟩ := hq
        refine WC.region ?_
        refine WL.ex rfl rfl rfl (Ex.asg rfl) ?_
        refine WL.nil ?_
        refine WX.normal_block (WX.next (?_))
        refine WC.seq ?_
        refine WC.seq ?_
        refine WC.region ?_
        refine WL.ex rfl rfl rfl (Ex.mv rfl) ?_
        refine WL.ex rfl rfl rfl (Ex.mv rfl) ?_
        refine WL.ex rfl rfl rfl (Ex.neIf rfl rfl (rfl)) ?_
        refine WL.ex rfl rfl rfl (Ex.mv rfl) ?_
        refine WL.yes rfl rfl rfl rfl ?_
        refine WL.ex rfl rfl rfl (Ex.mv rfl) ?_
        refine WL.yes rfl rfl rfl rfl ?_
        refine WL.ex rfl rfl rfl (Ex.neIf rfl rfl (rfl)) ?_
        refine WL.ex rfl rfl rfl (Ex.pickF rfl rfl) ?_
        refine WL.nil ?_
        refine WX.next (?_)
        refine WC.no rfl ?_
        refine WC.skip ?_
        refine WX.next (?_)
        refine WC.seq ?_
        refine WC.seq ?_
        refine WC.region ?_
        refine WL.ex rfl rfl rfl (Ex.mv rfl) ?_
        refine WL.ex rfl rfl rfl (Ex.neIt rfl rfl (by decide)) ?_
        refine WL.nil ?_
        refine WX.next (?_)
        refine WC.yes rfl ?_
        refine WC.seq ?_
        refine WC.region ?_
        refine WL.ex rfl rfl rfl (Ex.fa fl72_0 rfl) ?_
        refine WL.ex rfl rfl rfl (Ex.load ty67 rfl (M43.cell (i := 0) (v := .slice Aa (List.length ([] : List Nat)) ca) rfl rfl)) ?_
        refine WL.ex rfl rfl rfl (Ex.len Tryd.underlying67 rfl) ?_
        refine WL.ex rfl rfl rfl (Ex.eqIt rfl rfl (rfl)) ?_
        refine WL.ex rfl rfl rfl (Ex.mv rfl) ?_
        refine WL.yes rfl rfl rfl rfl ?_
        refine WL.ex rfl rfl rfl (Ex.fa fl72_1 rfl) ?_
        refine WL.yes rfl rfl rfl rfl ?_
        refine WL.ex rfl rfl rfl (Ex.load ty39 rfl (M43.cell (i := 0) (v := .slice Ab (List.length ([] : Hs)) cb) rfl rfl)) ?_
        refine WL.yes rfl rfl rfl rfl ?_
        refine WL.ex rfl rfl rfl (Ex.len Tryd.underlying39 rfl) ?_
        refine WL.yes rfl rfl rfl rfl ?_
        refine WL.ex rfl rfl rfl (Ex.eqIt rfl rfl (rfl)) ?_
        refine WL.ex rfl rfl rfl (Ex.pickT rfl rfl) ?_
        refine WL.ex rfl rfl rfl (Ex.asg rfl) ?_
        refine WL.nil ?_
        refine WX.next (?_)
        refine WC.ret ?_
        refine WX.ret_then (?_)
        refine WX.ret1 rfl rfl ?_
        exact ⟨rfl, M43.keep⟩
      · rw [if_neg (show ¬ ls.length < n by omega)] at hq
        refine WC.seq ?_
        refine WC.region ?_
        refine WL.ex rfl rfl rfl (Ex.mv rfl) ?_
        refine WL.ex rfl rfl rfl (Ex.len Tryd.underlying67 rfl) ?_
        refine WL.ex rfl rfl rfl (Ex.eqI rfl rfl) ?_
        refine WL.ex rfl rfl rfl (Ex.asg rfl) ?_
        refine WL.nil ?_
        refine WX.next (?_)
        refine WC.cond_dec rfl (fun h67 => ?_) (fun h67 => ?_)
        · rw [if_pos (show xs.length = 0 by omega)] at hq
          obtain ⟨rfl, rfl, rfl⟩ := hq
          refine WC.region ?_
          refine WL.ex rfl rfl rfl (Ex.asg rfl) ?_
          refine WL.nil ?_
          refine WX.normal_block (WX.next (?_))
          refine WC.seq ?_
          refine WC.seq ?_
          refine WC.region ?_
          refine WL.ex rfl rfl rfl (Ex.mv rfl) ?_
          refine WL.ex rfl rfl rfl (Ex.mv rfl) ?_
          refine WL.ex rfl rfl rfl (Ex.neIf rfl rfl (rfl)) ?_
          refine WL.ex rfl rfl rfl (Ex.mv rfl) ?_
          refine WL.yes rfl rfl rfl rfl ?_
          refine WL.ex rfl rfl rfl (Ex.mv rfl) ?_
          refine WL.yes rfl rfl rfl rfl ?_
          refine WL.ex rfl rfl rfl (Ex.neIf rfl rfl (rfl)) ?_
          refine WL.ex rfl rfl rfl (Ex.pickF rfl rfl) ?_
          refine WL.nil ?_
          refine WX.next (?_)
          refine WC.no rfl ?_
          refine WC.skip ?_
          refine WX.next (?_)
          refine WC.seq ?_
          refine WC.seq ?_
          refine WC.region ?_
          refine WL.ex rfl rfl rfl (Ex.mv rfl) ?_
          refine WL.ex rfl rfl rfl (Ex.neIt rfl rfl (by decide)) ?_
          refine WL.nil ?_
          refine WX.next (?_)
          refine WC.yes rfl ?_
          refine WC.seq ?_
          refine WC.region ?_
          refine WL.ex rfl rfl rfl (Ex.fa fl72_0 rfl) ?_
          refine WL.ex rfl rfl rfl (Ex.load ty67 rfl (M43.cell (i := 0) (v := .slice Aa (List.length ([] : List Nat)) ca) rfl rfl)) ?_
          refine WL.ex rfl rfl rfl (Ex.len Tryd.underlying67 rfl) ?_
          refine WL.ex rfl rfl rfl (Ex.eqIt rfl rfl (rfl)) ?_
          refine WL.ex rfl rfl rfl (Ex.mv rfl) ?_
          refine WL.yes rfl rfl rfl rfl ?_
          refine WL.ex rfl rfl rfl (Ex.fa fl72_1 rfl) ?_
          refine WL.yes rfl rfl rfl rfl ?_
          refine WL.ex rfl rfl rfl (Ex.load ty39 rfl (M43.cell (i := 0) (v := .slice Ab (List.length ([] : Hs)) cb) rfl rfl)) ?_
          refine WL.yes rfl rfl rfl rfl ?_
          refine WL.ex rfl rfl rfl (Ex.len Tryd.underlying39 rfl) ?_
          refine WL.yes rfl rfl rfl rfl ?_
          refine WL.ex rfl rfl rfl (Ex.eqIt rfl rfl (rfl)) ?_
          refine WL.ex rfl rfl rfl (Ex.pickT rfl rfl) ?_
          refine WL.ex rfl rfl rfl (Ex.asg rfl) ?_
          refine WL.nil ?_
          refine WX.next (?_)
          refine WC.ret ?_
          refine WX.ret_then (?_)
          refine WX.ret1 rfl rfl ?_
          exact ⟨rfl, M43.keep⟩
        · rw [if_neg (show ¬ xs.length = 0 by omega)] at hq
          refine WC.seq ?_
          refine WC.region ?_
          refine WL.ex rfl rfl rfl (Ex.mv rfl) ?_
          refine WL.ex rfl rfl rfl (Ex.mv rfl) ?_
          refine WL.ex rfl rfl rfl (Ex.geq rfl rfl) ?_
          refine WL.ex rfl rfl rfl (Ex.asg rfl) ?_
          refine WL.nil ?_
          refine WX.next (?_)
          refine WC.cond_dec rfl (fun h71 => ?_) (fun h71 => ?_)
          · rw [if_pos (show n ≤ mxp xs xs.length by omega)] at hq
            obtain ⟨rfl, rfl, rfl⟩ := hq
            refine WC.region ?_
            refine WL.ex rfl rfl rfl (Ex.asg rfl) ?_
            refine WL.nil ?_
            refine WX.normal_block (WX.next (?_))
            refine WC.seq ?_
            refine WC.seq ?_
            refine WC.region ?_
            refine WL.ex rfl rfl rfl (Ex.mv rfl) ?_
            refine WL.ex rfl rfl rfl (Ex.mv rfl) ?_
            refine WL.ex rfl rfl rfl (Ex.neIf rfl rfl (rfl)) ?_
            refine WL.ex rfl rfl rfl (Ex.mv rfl) ?_
            refine WL.yes rfl rfl rfl rfl ?_
            refine WL.ex rfl rfl rfl (Ex.mv rfl) ?_
            refine WL.yes rfl rfl rfl rfl ?_
            refine WL.ex rfl rfl rfl (Ex.neIf rfl rfl (rfl)) ?_
            refine WL.ex rfl rfl rfl (Ex.pickF rfl rfl) ?_
            refine WL.nil ?_
            refine WX.next (?_)
            refine WC.no rfl ?_
            refine WC.skip ?_
            refine WX.next (?_)
            refine WC.seq ?_
            refine WC.seq ?_
            refine WC.region ?_
            refine WL.ex rfl rfl rfl (Ex.mv rfl) ?_
            refine WL.ex rfl rfl rfl (Ex.neIt rfl rfl (by decide)) ?_
            refine WL.nil ?_
            refine WX.next (?_)
            refine WC.yes rfl ?_
            refine WC.seq ?_
            refine WC.region ?_
            refine WL.ex rfl rfl rfl (Ex.fa fl72_0 rfl) ?_
            refine WL.ex rfl rfl rfl (Ex.load ty67 rfl (M43.cell (i := 0) (v := .slice Aa (List.length ([] : List Nat)) ca) rfl rfl)) ?_
            refine WL.ex rfl rfl rfl (Ex.len Tryd.underlying67 rfl) ?_
            refine WL.ex rfl rfl rfl (Ex.eqIt rfl rfl (rfl)) ?_
            refine WL.ex rfl rfl rfl (Ex.mv rfl) ?_
            refine WL.yes rfl rfl rfl rfl ?_
            refine WL.ex rfl rfl rfl (Ex.fa fl72_1 rfl) ?_
            refine WL.yes rfl rfl rfl rfl ?_
            refine WL.ex rfl rfl rfl (Ex.load ty39 rfl (M43.cell (i := 0) (v := .slice Ab (List.length ([] : Hs)) cb) rfl rfl)) ?_
            refine WL.yes rfl rfl rfl rfl ?_
            refine WL.ex rfl rfl rfl (Ex.len Tryd.underlying39 rfl) ?_
            refine WL.yes rfl rfl rfl rfl ?_
            refine WL.ex rfl rfl rfl (Ex.eqIt rfl rfl (rfl)) ?_
            refine WL.ex rfl rfl rfl (Ex.pickT rfl rfl) ?_
            refine WL.ex rfl rfl rfl (Ex.asg rfl) ?_
            refine WL.nil ?_
            refine WX.next (?_)
            refine WC.ret ?_
            refine WX.ret_then (?_)
            refine WX.ret1 rfl rfl ?_
            exact ⟨rfl, M43.keep⟩
          · rw [if_neg (show ¬ n ≤ mxp xs xs.length by omega)] at hq
            obtain ⟨rfl, hri, hhs⟩ := hq
            have hxd : ∀ v ∈ xs, v < 2 ^ d := fun v hv => by
              obtain ⟨k, hk, rfl⟩ := mem_gv.1 hv
              have := mxp_ge xs xs.length k hk
              omega
            have hzd : ∀ v ∈ zs, v < 2 ^ d := fun v hv => hxd v ((hri.mem v).1 hv)
            have hzl := hri.le
            have hzp := hri.pos
            have htl : (ls.take n).length = n := by rw [List.length_take]; omega
            have hhs2 := hhs.trans (sibs_ref hri.si hzd (show n ≤ ls.length by omega))
            have hhl : List.length hs = cnt d zs := by rw [hhs, sibs_len]
            have hcl : cnt d zs ≤ 32 * 50 := Nat.le_trans (cnt_le d zs) (Nat.mul_le_mul hd32 (by omega))
            have hs32 : ∀ a ∈ hs, H32 a := by rw [hhs2]; exact sibs32 (take32 hls n) d 0 zs
            have hs32b : ∀ a ∈ sibs (fun q0 q1 => nd dNode e0 (ls.take n) q0 q1) d 0 zs, H32 a := sibs32 (take32 hls n) d 0 zs
            have hsl2 : List.length (sibs (fun q0 q1 => nd dNode e0 (ls.take n) q0 q1) d 0 zs) = cnt d zs := sibs_len _ d 0 zs
            refine WC.skip ?_
            refine WX.normal_block (WX.next (?_))
            refine WC.seq ?_
            refine WC.seq ?_
            refine WC.region ?_
            refine WL.ex rfl rfl rfl (Ex.mv rfl) ?_
            refine WL.ex rfl rfl rfl (Ex.mv rfl) ?_
            refine WL.ex rfl rfl rfl (Ex.neIf rfl rfl (rfl)) ?_
            refine WL.ex rfl rfl rfl (Ex.mv rfl) ?_
            refine WL.yes rfl rfl rfl rfl ?_
            refine WL.ex rfl rfl rfl (Ex.mv rfl) ?_
            refine WL.yes rfl rfl rfl rfl ?_
            refine WL.ex rfl rfl rfl (Ex.neIf rfl rfl (rfl)) ?_
            refine WL.ex rfl rfl rfl (Ex.pickF rfl rfl) ?_
            refine WL.nil ?_
            refine WX.next (?_)
            refine WC.no rfl ?_
            refine WC.skip ?_
            refine WX.next (?_)
            refine WC.seq ?_
            refine WC.seq ?_
            refine WC.region ?_
            refine WL.ex rfl rfl rfl (Ex.mv rfl) ?_
            refine WL.ex rfl rfl rfl (Ex.neIf rfl rfl (rfl)) ?_
            refine WL.nil ?_
            refine WX.next (?_)
            refine WC.no rfl ?_
            refine WC.skip ?_
            refine WX.next (?_)
            refine WC.seq ?_
            refine WC.region ?_
            refine WL.ex rfl rfl rfl (Ex.mv rfl) ?_
            refine WL.ac rfl rfl rfl (Ac.call rfl Tryd.func32 nm32 rfl (rise33_ok w43 B c2 xs (M43.rd hr) (by omega))) ?_; rintro v142 w142 ⟨zr, hzr1, hzr2, hzr3, N142⟩
            obtain rfl : zr = zs := si_eq hzr1 hri.si (fun v => by rw [hzr2 v, hri.mem v])
            have M142 := M43.new N142
            obtain ⟨Ar, cr, rfl⟩ := own_slice (M142.get (i := 0) rfl)
            obtain ⟨gr0, rfl⟩ := own_some (M142.get (i := 0) rfl) (by omega)
            refine WL.ex rfl rfl rfl (Ex.asg rfl) ?_
            refine WL.nil ?_
            refine WX.next (?_)
            refine WC.seq ?_
            refine WC.seq ?_
            refine WC.region ?_
            refine WL.ex rfl rfl rfl (Ex.mv rfl) ?_
            refine WL.ex rfl rfl rfl (Ex.len Tryd.underlying67 rfl) ?_
            refine WL.ex rfl rfl rfl (Ex.fa fl72_0 rfl) ?_
            refine WL.ex rfl rfl rfl (Ex.load ty67 rfl (M142.cell (i := 1) (v := .slice Aa (List.length zr) ca) rfl rfl)) ?_
            refine WL.ex rfl rfl rfl (Ex.len Tryd.underlying67 rfl) ?_
            refine WL.ex rfl rfl rfl (Ex.neIf rfl rfl (rfl)) ?_
            refine WL.nil ?_
            refine WX.next (?_)
            refine WC.no rfl ?_
            refine WC.skip ?_
            refine WX.next (?_)
            refine WC.seq ?_
            refine WC.seq ?_
            refine WC.region ?_
            obtain ⟨ga, rfl⟩ := own_some (M142.get (i := 2) rfl) (by omega)
            refine WL.ex rfl rfl rfl (Ex.mv rfl) ?_
            refine WL.ex rfl rfl rfl (Ex.len Tryd.underlying67 rfl) ?_
            refine WL.ex rfl rfl rfl (Ex.mv rfl) ?_
            refine WL.nil ?_
            refine WX.next (?_)
            refine WC.block ?_
            refine WC.loop (σ := Nat) (fun k => [(2, .int .u64 (n : Int)), (3, .slice B xs.length c2), (9, .int .i64 (d : Int)), (10, .slice A (List.length ls) c), (12, .pointer (some ⟨gb, 0, none⟩)), (20, .slice (some ⟨gr0, 0, none⟩) (List.length zr) cr), (103, .int .i64 (List.length zr : Int)), (104, .int .i64 (k : Int))]) (fun k wr => k ≤ List.length zr ∧ Mem w wr nof [row (.slice (some ⟨gr0, 0, none⟩) (List.length zr) cr) 23 1 (List.length zr) (u64V zr), blk gb [.slice (some ⟨ga, 0, none⟩) (List.length zr) ca, .slice Ab (List.length hs) cb] 72, row (.slice (some ⟨ga, 0, none⟩) (List.length zr) ca) 23 1 (List.length zr) (u64V zr), row (.slice Ab (List.length hs) cb) 31 32 (List.length hs) (fl hs)]) (fun k => List.length zr - k) (0) ?_ (.cons rfl (.cons rfl (.cons rfl (.cons rfl (.cons rfl (.cons rfl (.cons rfl (.cons rfl (.nil))))))))) ?_
            · exact ⟨by omega, M142⟩
            rintro k w153 ⟨hk, M153⟩
            refine WC.seq ?_
            refine WC.region ?_
            refine WL.ex rfl rfl rfl (Ex.lss rfl rfl) ?_
            refine WL.nil ?_
            refine WX.next (?_)
            refine WC.seq ?_
            refine WC.cond_dec rfl (fun hc105 => ?_) (fun hc105 => ?_)
            · skip
              refine WC.skip ?_
              refine WX.next (?_)
              refine WC.seq ?_
              refine WC.block ?_
              refine WC.seq ?_
              refine WC.region ?_
              refine WL.ex rfl rfl rfl (Ex.mv rfl) ?_
              refine WL.ex rfl rfl rfl (Ex.asg rfl) ?_
              refine WL.nil ?_
              refine WX.next (?_)
              refine WC.seq ?_
              refine WC.draw (Keep nof w153.drew) [] (.one 0 0 (.one 1 0 (.one 2 0 (.one 4 0 (.one 6 0 (.one 3 1 (.one 5 1 (.one 7 0 (.one 8 1 (.one 9 0 .nil)))))))))) mixed (by kernel_rfl) (by kernel_rfl) (by kernel_rfl) (HQ.then_ (HQ.block (HQ.then_ (HQ.then_ (HQ.block (HQ.then_ HQ.body)))))) ?_
              obtain ⟨w157, hw157⟩ : ∃ v, v = w153.drew := ⟨_, rfl⟩
              have D157 : Keep nof w153 w157 := by rw [hw157]; exact Keep.drew _ _
              have M157 := M153.step D157
              rw [← hw157]; clear hw157
              refine WP.p rfl rfl rfl rfl (fun _ => Ex.mv rfl) ?_
              refine WP.p rfl rfl rfl rfl (fun _ => Ex.mv rfl) ?_
              refine WP.p rfl rfl rfl rfl (fun _ => Ex.ia Tryd.underlying67 sz23 rfl rfl ⟨by omega, by omega⟩) ?_
              refine WP.p rfl rfl rfl rfl (fun _ => Ex.fa fl72_0 rfl) ?_
              refine WP.p rfl rfl rfl rfl (fun _ => Ex.mv rfl) ?_
              refine WP.q (Keep.refl _ _) rfl rfl rfl rfl (fun w' hS => Ex.load ty23 rfl (u64_at ((M157.rdr (i := 0) rfl).keep0 hS) (k := k) (by omega) (by omega))) ?_
              refine WP.q (Keep.refl _ _) rfl rfl rfl rfl (fun w' hS => Ex.load ty67 rfl (hS.cell (M157.cell (i := 1) (v := .slice (some ⟨ga, 0, none⟩) (List.length zr) ca) rfl rfl) (fun f => f))) ?_
              refine WP.p rfl rfl rfl rfl (fun _ => Ex.ia Tryd.underlying67 sz23 rfl rfl ⟨by omega, by omega⟩) ?_
              refine WP.q (Keep.refl _ _) rfl rfl rfl rfl (fun w' hS => Ex.load ty23 rfl (u64_at ((M157.rdr (i := 2) rfl).keep0 hS) (k := k) (by omega) (by omega))) ?_
              refine WP.p rfl rfl rfl rfl (fun _ => Ex.neIf rfl rfl (rfl)) ?_
              refine WP.nil ?_
              refine WX.next (?_)
              refine WC.no rfl ?_
              refine WC.skip ?_
              refine WX.normal_block (WX.next (?_))
              refine WC.region ?_
              refine WL.ex rfl rfl rfl (Ex.add rfl rfl (i64w _ (by omega) (by omega))) ?_
              refine WL.ex rfl rfl rfl (Ex.mv rfl) ?_
              refine WL.nil ?_
              refine WX.again (k + 1) ?_ ?_ (.cons rfl (.cons rfl (.cons rfl (.cons rfl (.cons rfl (.cons rfl (.cons rfl (.cons rfl (.nil)))))))))
              · omega
              · exact ⟨by omega, M157⟩
            · skip
              refine WC.exit ?_
              refine WX.exit_then (WX.exit_then (WX.exit_block (WX.next (?_))))
              refine WC.seq ?_
              refine WC.region ?_
              refine WL.ex rfl rfl rfl (Ex.mv rfl) ?_
              refine WL.ex rfl rfl rfl (Ex.mv rfl) ?_
              refine WL.ac rfl rfl rfl (Ac.call rfl Tryd.func33 nm33 rfl (needs_in w153 B c2 d (xs) hd32 (by omega) hxd (M153.rd hr) (by omega))) ?_; rintro v172 w172 ⟨zn, hzn, rfl, K172⟩
              have M172 := M153.step K172
              obtain rfl : zn = zr := si_eq hzn.si hri.si (fun v => by rw [hzn.mem v, hri.mem v])
              refine WL.ex rfl rfl rfl (Ex.mv rfl) ?_
              refine WL.ex rfl rfl rfl (Ex.ext rfl rfl) ?_
              refine WL.ex rfl rfl rfl (Ex.ext rfl rfl) ?_
              refine WL.ex rfl rfl rfl (Ex.asg rfl) ?_
              refine WL.ex rfl rfl rfl (Ex.asg rfl) ?_
              refine WL.nil ?_
              refine WX.next (?_)
              refine WC.seq ?_
              refine WC.draw (Keep nof w172.drew) [8] (.one 0 0 (.one 2 0 (.one 3 0 (.one 4 0 (.one 5 0 (.one 6 0 (.one 1 1 (.one 7 2 (.one 8 2 (.one 9 0 (.one 10 0 (.one 11 0 (.one 12 0 (.one 13 0 (.one 14 0 (.one 15 0 (.one 16 1 (.one 17 0 (.one 18 0 (.one 19 0 (.one 20 0 .nil))))))))))))))))))))) mixed (by kernel_rfl) (by kernel_rfl) (by kernel_rfl) (HQ.then_ HQ.body) ?_
              obtain ⟨w178, hw178⟩ : ∃ v, v = w172.drew := ⟨_, rfl⟩
              have D178 : Keep nof w172 w178 := by rw [hw178]; exact Keep.drew _ _
              have M178 := M172.step D178
              rw [← hw178]; clear hw178
              refine WP.p rfl rfl rfl rfl (fun _ => Ex.fa fl72_1 rfl) ?_
              refine WP.p rfl rfl rfl rfl (fun _ => Ex.mv rfl) ?_
              refine WP.p rfl rfl rfl rfl (fun _ => Ex.mv rfl) ?_
              refine WP.p rfl rfl rfl rfl (fun _ => Ex.mv rfl) ?_
              refine WP.p rfl rfl rfl rfl (fun _ => Ex.slh Tryd.underlying39 sz31 rfl rfl (Int.natCast_nonneg _) (by omega)) ?_
              rw [Int.toNat_natCast]
              refine WP.p rfl rfl rfl rfl (fun _ => Ex.mv rfl) ?_
              refine WP.q (Keep.refl _ _) rfl rfl rfl rfl (fun w' hS => Ex.load ty39 rfl (hS.cell (M178.cell (i := 1) (v := .slice Ab (List.length hs) cb) rfl rfl) (fun f => f))) ?_
              refine WP.as rfl rfl rfl rfl (Ac.call rfl Tryd.func35 nm35 rfl ((by
                have hx9 := nodes33_ok w178 A c (ls.take n) (some ⟨gr0, 0, none⟩) cr d zn (by rw [fl_take hls]; exact (M178.rd hrl).take _) (take32 hls n) (by omega) (M178.rdr (i := 0) rfl) hri.si hzd hd32 (by omega) (by omega) (hR.keep0 M178.keep)
                rw [htl] at hx9
                exact hx9))) ?_; rintro v186 w186 N186
              refine ⟨Keep nof w186, fun u h => N186.keep.trans h, Keep.refl _ _, ?_⟩
              have M186 := M178.new N186
              obtain ⟨An, cn, rfl⟩ := own_slice (M186.get (i := 0) rfl)
              refine WP.a rfl rfl rfl rfl (Ac.call rfl Tryd.func34 nm34 rfl (same_ok w186 Ab An cb cn hs _ (M186.rdr (i := 4) rfl) (M186.rdr (i := 0) rfl) hs32 hs32b (by omega) (by omega))) ?_; rintro v187 w187 ⟨rfl, K187⟩; refine .inl ⟨rfl, Keep nof w187, ?_⟩
              rw [decide_eq_true hhs2]
              have M187 := M186.step K187
              refine WP.p rfl rfl rfl rfl (fun _ => Ex.mv rfl) ?_
              refine WP.py rfl rfl rfl rfl rfl rfl (fun _ => Ex.mv rfl) ?_
              refine WP.py rfl rfl rfl rfl rfl rfl (fun _ => Ex.eqIt rfl rfl (rfl)) ?_
              refine WP.p rfl rfl rfl rfl (fun _ => Ex.pickT rfl rfl) ?_
              refine WP.p rfl rfl rfl rfl (fun _ => Ex.mv rfl) ?_
              refine WP.py rfl rfl rfl rfl rfl rfl (fun _ => Ex.mv rfl) ?_
              refine WP.py rfl rfl rfl rfl rfl rfl (fun _ => Ex.fa fl72_1 rfl) ?_
              refine WP.qy (Keep.refl _ _) rfl rfl rfl rfl rfl rfl (fun w' hS => Ex.load ty39 rfl (hS.cell (M187.cell (i := 2) (v := .slice Ab (List.length hs) cb) rfl rfl) (fun f => f))) ?_
              refine WP.py rfl rfl rfl rfl rfl rfl (fun _ => Ex.len Tryd.underlying39 rfl) ?_
              refine WP.py rfl rfl rfl rfl rfl rfl (fun _ => Ex.eqIt rfl rfl (by rw [hhl])) ?_
              refine WP.p rfl rfl rfl rfl (fun _ => Ex.pickT rfl rfl) ?_
              refine WP.p rfl rfl rfl rfl (fun _ => Ex.asg rfl) ?_
              refine WP.nil ?_
              refine WX.next (?_)
              refine WC.ret ?_
              refine WX.ret1 rfl rfl ?_
              exact ⟨rfl, M187.keep⟩

end Go.Proofs.YtchmjpdkonfifaaDoor
