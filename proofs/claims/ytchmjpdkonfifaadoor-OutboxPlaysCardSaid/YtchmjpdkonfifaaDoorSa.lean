/- Walks, written by gen.py off the translation's own print: each says what the Go function comes to. -/
import Derived.Test.YtchmjpdkonfifaaDoorFacts
import Derived.Test.YtchmjpdkonfifaaDoorSum
import Derived.Test.YtchmjpdkonfifaaDoorFn
set_option linter.unusedVariables false
set_option linter.unusedSimpArgs false
namespace Go.Proofs.YtchmjpdkonfifaaDoor
open Go.Sx Go.RowKit
attribute [local irreducible] Ac Ex WL WC WX WP Gives

theorem addI_ok (x y : Nat) : Int4 (addI x y).1 := by
  unfold addI
  split
  · exact lm4_ok _
  · exact int4z
theorem sumI_ok (x : Nat) : Int4 (sumI x).1 := by
  unfold sumI
  split
  · exact lm4_ok _
  · exact int4z
theorem sumI_1 {x : Nat} (h : ¬ x < M256) : sumI x = (z4, 2) := if_neg h
theorem sumI_0 {x : Nat} (h : x < M256) : sumI x = (lm4 x, 0) := if_pos h

theorem own_cutI {w : World} {A : Option Addr} {c n m : Nat} {e : TypeId} {l : List Nat} (h : w.ownsRow 0 e 1 (.slice A n c) n (i64V l)) (hm : m ≤ n) : w.ownsRow 0 e 1 (.slice A m c) m (i64V (l.take m)) := by
  have h1 := h.1
  rw [i64V_length, Nat.mul_one] at h1
  refine ⟨by rw [i64V_length, List.length_take]; omega, ?_⟩
  rcases h.2 with ⟨hv, hn⟩ | ⟨g, cap, cur, hv, hb, hg, hnc, hcm, hsz, hcur⟩
  · simp only [Value.slice.injEq] at hv
    obtain ⟨rfl, _, rfl⟩ := hv
    exact .inl ⟨by simp; omega, by omega⟩
  · simp only [Value.slice.injEq] at hv
    obtain ⟨rfl, _, rfl⟩ := hv
    refine .inr ⟨g, c, cur, rfl, hb, hg, by omega, hcm, hsz, ?_⟩
    rw [i64V_take]
    have h2 := congrArg (List.take m) hcur
    rw [List.take_take] at h2
    simpa [Nat.min_eq_left (by omega : m ≤ n)] using h2
theorem own_cap2 {w : World} {A : Option Addr} {c n : Nat} {e : TypeId} {sz : Nat} {xs : List Value} (h : w.ownsRow 0 e sz (.slice A n c) n xs) : n ≤ c ∧ c ≤ maxLen := by
  rcases h.2 with ⟨hv, hn⟩ | ⟨g, cap, cur, hv, hb, hg, hnc, hcm, hsz, hcur⟩
  · simp only [Value.slice.injEq] at hv
    obtain ⟨_, h2, h3⟩ := hv
    subst h2 h3
    exact ⟨Nat.le_refl _, Nat.zero_le _⟩
  · simp only [Value.slice.injEq] at hv
    obtain ⟨_, _, rfl⟩ := hv
    exact ⟨hnc, hcm⟩
theorem _root_.Go.Sx.Mem.cutI {w0 w : World} {F : Nat → Prop} {rs : List Res} (M : Mem w0 w F rs) {i c n m : Nat} {A : Option Addr} {e : TypeId} {l : List Nat} (hi : rs[i]? = some (row (.slice A n c) e 1 n (i64V l))) (hm : m ≤ n) : Mem w0 w F (rs.set i (row (.slice A m c) e 1 m (i64V (l.take m)))) :=
  M.turn hi (Keep.refl _ _) (own_cutI (M.get hi) hm) (fun b hb => .inl (by rcases A with _ | ⟨g, o, _ | v⟩ <;> exact hb))

/- sponsion/limb.bit -/
theorem bit_ok (w : World) (b : Bool) :
    Gives Tryd.prog 112 #[.bool b] w fun u w1 => u = .int .u64 (cond b 1 0) ∧ Keep nof w w1 := by
  have M0 := Mem.start w nof
  refine Gives.enter (n := 4) Tryd.func112 rfl Tryd.ntmps112 rfl (env := [(0, .bool b)]) rfl ?_
  refine WC.seq ?_
  refine WC.region ?_
  refine WL.ex rfl rfl rfl (Ex.asg rfl) ?_
  refine WL.nil ?_
  refine WX.next (?_)
  refine WC.seq ?_
  refine WC.seq ?_
  refine WC.region ?_
  refine WL.ex rfl rfl rfl (Ex.mv rfl) ?_
  refine WL.nil ?_
  refine WX.next (?_)
  refine WC.cond rfl (fun h3 => ?_) (fun h3 => ?_)
  · subst h3
    refine WC.seq ?_
    refine WC.region ?_
    refine WL.ex rfl rfl rfl (Ex.asg rfl) ?_
    refine WL.nil ?_
    refine WX.next (?_)
    refine WC.ret ?_
    refine WX.ret_then (?_)
    refine WX.ret1 rfl rfl ?_
    exact ⟨rfl, M0.keep⟩
  · subst h3
    refine WC.skip ?_
    refine WX.next (?_)
    refine WC.seq ?_
    refine WC.region ?_
    refine WL.ex rfl rfl rfl (Ex.asg rfl) ?_
    refine WL.nil ?_
    refine WX.next (?_)
    refine WC.ret ?_
    refine WX.ret1 rfl rfl ?_
    exact ⟨rfl, M0.keep⟩

/- sponsion/limb.Add -/
theorem ladd_ok (w : World) (a b c : Nat) (ha : a < 18446744073709551616) (hb : b < 18446744073709551616) (hc : c ≤ 1) :
    Gives Tryd.prog 99 #[.int .u64 (a : Int), .int .u64 (b : Int), .int .u64 (c : Int)] w fun u w1 => u = .tuple #[.int .u64 (((a + b + c) % 18446744073709551616 : Nat) : Int), .int .u64 (((a + b + c) / 18446744073709551616 : Nat) : Int)] ∧ Keep nof w w1 := by
  have M0 := Mem.start w nof
  obtain ⟨s, hs⟩ : ∃ s, s = (a + b) % 18446744073709551616 := ⟨_, rfl⟩
  refine Gives.enter (n := 26) Tryd.func99 rfl Tryd.ntmps99 rfl (env := [(0, .int .u64 (a : Int)), (1, .int .u64 (b : Int)), (2, .int .u64 (c : Int))]) rfl ?_
  refine WC.seq ?_
  refine WC.region ?_
  refine WL.ex rfl rfl rfl (Ex.asg rfl) ?_
  refine WL.ex rfl rfl rfl (Ex.asg rfl) ?_
  refine WL.nil ?_
  refine WX.next (?_)
  refine WC.seq ?_
  refine WC.region ?_
  refine WL.ex rfl rfl rfl (Ex.mv rfl) ?_
  refine WL.ex rfl rfl rfl (Ex.mv rfl) ?_
  refine WL.ex rfl rfl rfl (Ex.add rfl rfl (c := ((s : Nat) : Int)) (by rw [← Int.natCast_add, u64w, ← hs])) ?_
  refine WL.ex rfl rfl rfl (Ex.asg rfl) ?_
  refine WL.nil ?_
  refine WX.next (?_)
  refine WC.seq ?_
  refine WC.region ?_
  refine WL.ex rfl rfl rfl (Ex.mv rfl) ?_
  refine WL.ex rfl rfl rfl (Ex.mv rfl) ?_
  refine WL.ex rfl rfl rfl (Ex.lss rfl rfl) ?_
  by_cases h1 : (s : Int) < (a : Int)
  · rw [decide_eq_true h1]
    refine WL.ac rfl rfl rfl (Ac.call rfl Tryd.func112 nm112 rfl (bit_ok w true)) ?_; rintro v10 w10 ⟨rfl, K10⟩
    have M10 := M0.step K10
    refine WL.ex rfl rfl rfl (Ex.asg rfl) ?_
    refine WL.nil ?_
    refine WX.next (?_)
    refine WC.seq ?_
    refine WC.seq ?_
    refine WC.region ?_
    refine WL.ex rfl rfl rfl (Ex.mv rfl) ?_
    refine WL.ex rfl rfl rfl (Ex.neI rfl rfl) ?_
    refine WL.nil ?_
    refine WX.next (?_)
    refine WC.cond rfl (fun h16 => ?_) (fun h16 => ?_)
    · have h17 : ¬ (c : Int) = 0 := by simpa using h16
      obtain rfl : c = 1 := by omega
      obtain ⟨s1, hs1⟩ : ∃ s1, s1 = (s + 1) % 18446744073709551616 := ⟨_, rfl⟩
      refine WC.seq ?_
      refine WC.region ?_
      refine WL.ex rfl rfl rfl (Ex.mv rfl) ?_
      refine WL.ex rfl rfl rfl (Ex.add rfl rfl (c := ((s1 : Nat) : Int)) (by rw [show (s : Int) + 1 = ((s + 1 : Nat) : Int) by omega, u64w, ← hs1])) ?_
      refine WL.ex rfl rfl rfl (Ex.asg rfl) ?_
      refine WL.nil ?_
      refine WX.next (?_)
      refine WC.region ?_
      refine WL.ex rfl rfl rfl (Ex.mv rfl) ?_
      refine WL.ex rfl rfl rfl (Ex.mv rfl) ?_
      refine WL.ex rfl rfl rfl (Ex.eqI rfl rfl) ?_
      by_cases h2 : (s1 : Int) = 0
      · rw [decide_eq_true h2]
        refine WL.ac rfl rfl rfl (Ac.call rfl Tryd.func112 nm112 rfl (bit_ok w10 true)) ?_; rintro v20 w20 ⟨rfl, K20⟩
        have M20 := M10.step K20
        refine WL.ex rfl rfl rfl (Ex.bor rfl rfl (c := 1) (by decide)) ?_
        refine WL.ex rfl rfl rfl (Ex.asg rfl) ?_
        refine WL.nil ?_
        refine WX.next (?_)
        refine WC.seq ?_
        refine WC.region ?_
        refine WL.ex rfl rfl rfl (Ex.mv rfl) ?_
        refine WL.ex rfl rfl rfl (Ex.mv rfl) ?_
        refine WL.ex rfl rfl rfl (Ex.asg rfl) ?_
        refine WL.ex rfl rfl rfl (Ex.asg rfl) ?_
        refine WL.nil ?_
        refine WX.next (?_)
        refine WC.ret ?_
        refine WX.ret2 rfl rfl rfl ?_
        rw [show (a + b + 1) % 18446744073709551616 = s1 by omega, show (a + b + 1) / 18446744073709551616 = 1 by omega]
        exact ⟨rfl, M20.keep⟩
      · rw [decide_eq_false h2]
        refine WL.ac rfl rfl rfl (Ac.call rfl Tryd.func112 nm112 rfl (bit_ok w10 false)) ?_; rintro v27 w27 ⟨rfl, K27⟩
        have M27 := M10.step K27
        refine WL.ex rfl rfl rfl (Ex.bor rfl rfl (c := 1) (by decide)) ?_
        refine WL.ex rfl rfl rfl (Ex.asg rfl) ?_
        refine WL.nil ?_
        refine WX.next (?_)
        refine WC.seq ?_
        refine WC.region ?_
        refine WL.ex rfl rfl rfl (Ex.mv rfl) ?_
        refine WL.ex rfl rfl rfl (Ex.mv rfl) ?_
        refine WL.ex rfl rfl rfl (Ex.asg rfl) ?_
        refine WL.ex rfl rfl rfl (Ex.asg rfl) ?_
        refine WL.nil ?_
        refine WX.next (?_)
        refine WC.ret ?_
        refine WX.ret2 rfl rfl rfl ?_
        rw [show (a + b + 1) % 18446744073709551616 = s1 by omega, show (a + b + 1) / 18446744073709551616 = 1 by omega]
        exact ⟨rfl, M27.keep⟩
    · have h17 : (c : Int) = 0 := by simpa using h16
      obtain rfl : c = 0 := by omega
      refine WC.skip ?_
      refine WX.next (?_)
      refine WC.seq ?_
      refine WC.region ?_
      refine WL.ex rfl rfl rfl (Ex.mv rfl) ?_
      refine WL.ex rfl rfl rfl (Ex.mv rfl) ?_
      refine WL.ex rfl rfl rfl (Ex.asg rfl) ?_
      refine WL.ex rfl rfl rfl (Ex.asg rfl) ?_
      refine WL.nil ?_
      refine WX.next (?_)
      refine WC.ret ?_
      refine WX.ret2 rfl rfl rfl ?_
      rw [show (a + b + 0) % 18446744073709551616 = s by omega, show (a + b + 0) / 18446744073709551616 = 1 by omega]
      exact ⟨rfl, M10.keep⟩
  · rw [decide_eq_false h1]
    refine WL.ac rfl rfl rfl (Ac.call rfl Tryd.func112 nm112 rfl (bit_ok w false)) ?_; rintro v38 w38 ⟨rfl, K38⟩
    have M38 := M0.step K38
    refine WL.ex rfl rfl rfl (Ex.asg rfl) ?_
    refine WL.nil ?_
    refine WX.next (?_)
    refine WC.seq ?_
    refine WC.seq ?_
    refine WC.region ?_
    refine WL.ex rfl rfl rfl (Ex.mv rfl) ?_
    refine WL.ex rfl rfl rfl (Ex.neI rfl rfl) ?_
    refine WL.nil ?_
    refine WX.next (?_)
    refine WC.cond rfl (fun h16 => ?_) (fun h16 => ?_)
    · have h17 : ¬ (c : Int) = 0 := by simpa using h16
      obtain rfl : c = 1 := by omega
      obtain ⟨s1, hs1⟩ : ∃ s1, s1 = (s + 1) % 18446744073709551616 := ⟨_, rfl⟩
      refine WC.seq ?_
      refine WC.region ?_
      refine WL.ex rfl rfl rfl (Ex.mv rfl) ?_
      refine WL.ex rfl rfl rfl (Ex.add rfl rfl (c := ((s1 : Nat) : Int)) (by rw [show (s : Int) + 1 = ((s + 1 : Nat) : Int) by omega, u64w, ← hs1])) ?_
      refine WL.ex rfl rfl rfl (Ex.asg rfl) ?_
      refine WL.nil ?_
      refine WX.next (?_)
      refine WC.region ?_
      refine WL.ex rfl rfl rfl (Ex.mv rfl) ?_
      refine WL.ex rfl rfl rfl (Ex.mv rfl) ?_
      refine WL.ex rfl rfl rfl (Ex.eqI rfl rfl) ?_
      by_cases h2 : (s1 : Int) = 0
      · rw [decide_eq_true h2]
        refine WL.ac rfl rfl rfl (Ac.call rfl Tryd.func112 nm112 rfl (bit_ok w38 true)) ?_; rintro v48 w48 ⟨rfl, K48⟩
        have M48 := M38.step K48
        refine WL.ex rfl rfl rfl (Ex.bor rfl rfl (c := 1) (by decide)) ?_
        refine WL.ex rfl rfl rfl (Ex.asg rfl) ?_
        refine WL.nil ?_
        refine WX.next (?_)
        refine WC.seq ?_
        refine WC.region ?_
        refine WL.ex rfl rfl rfl (Ex.mv rfl) ?_
        refine WL.ex rfl rfl rfl (Ex.mv rfl) ?_
        refine WL.ex rfl rfl rfl (Ex.asg rfl) ?_
        refine WL.ex rfl rfl rfl (Ex.asg rfl) ?_
        refine WL.nil ?_
        refine WX.next (?_)
        refine WC.ret ?_
        refine WX.ret2 rfl rfl rfl ?_
        rw [show (a + b + 1) % 18446744073709551616 = s1 by omega, show (a + b + 1) / 18446744073709551616 = 1 by omega]
        exact ⟨rfl, M48.keep⟩
      · rw [decide_eq_false h2]
        refine WL.ac rfl rfl rfl (Ac.call rfl Tryd.func112 nm112 rfl (bit_ok w38 false)) ?_; rintro v55 w55 ⟨rfl, K55⟩
        have M55 := M38.step K55
        refine WL.ex rfl rfl rfl (Ex.bor rfl rfl (c := 0) (by decide)) ?_
        refine WL.ex rfl rfl rfl (Ex.asg rfl) ?_
        refine WL.nil ?_
        refine WX.next (?_)
        refine WC.seq ?_
        refine WC.region ?_
        refine WL.ex rfl rfl rfl (Ex.mv rfl) ?_
        refine WL.ex rfl rfl rfl (Ex.mv rfl) ?_
        refine WL.ex rfl rfl rfl (Ex.asg rfl) ?_
        refine WL.ex rfl rfl rfl (Ex.asg rfl) ?_
        refine WL.nil ?_
        refine WX.next (?_)
        refine WC.ret ?_
        refine WX.ret2 rfl rfl rfl ?_
        rw [show (a + b + 1) % 18446744073709551616 = s1 by omega, show (a + b + 1) / 18446744073709551616 = 0 by omega]
        exact ⟨rfl, M55.keep⟩
    · have h17 : (c : Int) = 0 := by simpa using h16
      obtain rfl : c = 0 := by omega
      refine WC.skip ?_
      refine WX.next (?_)
      refine WC.seq ?_
      refine WC.region ?_
      refine WL.ex rfl rfl rfl (Ex.mv rfl) ?_
      refine WL.ex rfl rfl rfl (Ex.mv rfl) ?_
      refine WL.ex rfl rfl rfl (Ex.asg rfl) ?_
      refine WL.ex rfl rfl rfl (Ex.asg rfl) ?_
      refine WL.nil ?_
      refine WX.next (?_)
      refine WC.ret ?_
      refine WX.ret2 rfl rfl rfl ?_
      rw [show (a + b + 0) % 18446744073709551616 = s by omega, show (a + b + 0) / 18446744073709551616 = 0 by omega]
      exact ⟨rfl, M38.keep⟩

/- sponsion/huge.chain -/
theorem chain_ok (w : World) (a b : List Nat) (fv : Value) (ha : Int4 a) (hb : Int4 b) (hstep : ∀ (w' : World) (x y c : Nat), x < 18446744073709551616 → y < 18446744073709551616 → c ≤ 1 → CallV Tryd.prog fv w' [.int .u64 (x : Int), .int .u64 (y : Int), .int .u64 (c : Int)] fun u w2 => u = .tuple #[.int .u64 (((x + y + c) % 18446744073709551616 : Nat) : Int), .int .u64 (((x + y + c) / 18446744073709551616 : Nat) : Int)] ∧ Keep nof w' w2) :
    Gives Tryd.prog 98 #[.agg (intV a).toArray, .agg (intV b).toArray, fv] w fun u w1 => u = .tuple #[.agg (intV (addI (v64 a) (v64 b)).1).toArray, .int .i64 (addI (v64 a) (v64 b)).2] ∧ Keep nof w w1 := by
  have M0 := Mem.start w nof
  have hf4 := fill4_ok a b 4
  refine Gives.enter (n := 33) Tryd.func98 rfl Tryd.ntmps98 rfl (env := [(0, .agg (intV a).toArray), (1, .agg (intV b).toArray), (2, fv)]) rfl ?_
  refine WC.seq ?_
  refine WC.region ?_
  refine WL.ac rfl rfl rfl (Ac.box M0 rfl rfl) ?_; rintro v1 w1 ⟨ga, rfl, hg1, K1, M1⟩
  refine WL.ac rfl rfl rfl (Ac.box M1 rfl rfl) ?_; rintro v2 w2 ⟨gb, rfl, hg2, K2, M2⟩
  refine WL.ac rfl rfl rfl (Ac.alloc M2 (l := intV [0, 0, 0, 0]) (by kernel_rfl)) ?_; rintro v3 w3 ⟨gr, rfl, hg3, K3, M3⟩
  refine WL.ex rfl rfl rfl (Ex.asg rfl) ?_
  refine WL.nil ?_
  refine WX.next (?_)
  refine WC.seq ?_
  refine WC.region ?_
  refine WL.ac rfl rfl rfl (Ac.alloc M3 (l := intV [0, 0, 0, 0]) (by kernel_rfl)) ?_; rintro v5 w5 ⟨go, rfl, hg5, K5, M5⟩
  refine WL.nil ?_
  refine WX.next (?_)
  refine WC.seq ?_
  refine WC.region ?_
  refine WL.ex rfl rfl rfl (Ex.asg rfl) ?_
  refine WL.nil ?_
  refine WX.next (?_)
  refine WC.seq ?_
  refine WC.seq ?_
  refine WC.region ?_
  refine WL.ex rfl rfl rfl (Ex.mv rfl) ?_
  refine WL.nil ?_
  refine WX.next (?_)
  refine WC.block ?_
  refine WC.loop (σ := Nat) (fun k => [(2, fv), (3, .pointer (some ⟨ga, 0, none⟩)), (4, .pointer (some ⟨gb, 0, none⟩)), (6, .pointer (some ⟨gr, 0, none⟩)), (8, .pointer (some ⟨go, 0, none⟩)), (9, .int .u64 ((car a b k : Nat) : Int)), (11, .int .i64 (k : Int))]) (fun k wr => k ≤ 4 ∧ Mem w wr nof [blk go (intV (fillTo 4 k (lmb a b) 0)) 48, blk gr (intV [0, 0, 0, 0]) 48, blk gb (intV b) 48, blk ga (intV a) 48]) (fun k => 4 - k) (0) ?_ (.cons rfl (.cons rfl (.cons rfl (.cons rfl (.cons rfl (.cons rfl (.cons rfl (.nil)))))))) ?_
  · exact ⟨by omega, M5⟩
  rintro k w8 ⟨hk, M8⟩
  refine WC.seq ?_
  refine WC.region ?_
  refine WL.ex rfl rfl rfl (Ex.lss rfl rfl) ?_
  refine WL.nil ?_
  refine WX.next (?_)
  refine WC.seq ?_
  refine WC.cond_dec rfl (fun hc12 => ?_) (fun hc12 => ?_)
  · skip
    refine WC.skip ?_
    refine WX.next (?_)
    refine WC.seq ?_
    refine WC.block ?_
    refine WC.seq ?_
    refine WC.region ?_
    refine WL.ex rfl rfl rfl (Ex.mv rfl) ?_
    refine WL.ex rfl rfl rfl (Ex.asg rfl) ?_
    refine WL.nil ?_
    refine WX.next (?_)
    refine WC.draw (Keep nof w8.drew) [9, 14] (.one 0 0 (.one 1 0 (.one 2 0 (.one 3 0 (.one 5 0 (.one 6 0 (.one 8 0 (.one 4 1 (.one 7 1 (.one 9 2 (.one 10 0 (.one 11 0 (.one 12 0 (.one 13 0 (.one 14 2 (.one 15 0 .nil)))))))))))))))) mixed (by kernel_rfl) (by kernel_rfl) (by kernel_rfl) (HQ.block (HQ.then_ (HQ.then_ (HQ.block (HQ.then_ HQ.body))))) ?_
    obtain ⟨w12, hw12⟩ : ∃ v, v = w8.drew := ⟨_, rfl⟩
    have D12 : Keep nof w8 w12 := by rw [hw12]; exact Keep.drew _ _
    have M12 := M8.step D12
    rw [← hw12]; clear hw12
    refine WP.p rfl rfl rfl rfl (fun _ => Ex.mv rfl) ?_
    refine WP.p rfl rfl rfl rfl (fun _ => Ex.mv rfl) ?_
    refine WP.p rfl rfl rfl rfl (fun _ => Ex.mv rfl) ?_
    refine WP.p rfl rfl rfl rfl (fun _ => Ex.iaA Tryd.underlying48 sz23 rfl rfl ⟨by omega, by omega⟩) ?_
    refine WP.p rfl rfl rfl rfl (fun _ => Ex.mv rfl) ?_
    refine WP.p rfl rfl rfl rfl (fun _ => Ex.iaA Tryd.underlying48 sz23 rfl rfl ⟨by omega, by omega⟩) ?_
    refine WP.p rfl rfl rfl rfl (fun _ => Ex.mv rfl) ?_
    refine WP.q (Keep.refl _ _) rfl rfl rfl rfl (fun w' hS => Ex.load ty23 rfl (hS.cell (M12.cell (i := 3) rfl (v := .int .u64 ((a.getD k 0 : Nat) : Int)) (by simp only [Int.toNat_natCast, Nat.mul_one, Nat.zero_add]; exact intV_get (by rw [ha.1]; omega))) (fun f => f))) ?_
    refine WP.q (Keep.refl _ _) rfl rfl rfl rfl (fun w' hS => Ex.load ty23 rfl (hS.cell (M12.cell (i := 2) rfl (v := .int .u64 ((b.getD k 0 : Nat) : Int)) (by simp only [Int.toNat_natCast, Nat.mul_one, Nat.zero_add]; exact intV_get (by rw [hb.1]; omega))) (fun f => f))) ?_
    refine WP.a rfl rfl rfl rfl (Ac.callv rfl rfl (hstep w12 (a.getD k 0) (b.getD k 0) (car a b k) (ha.2 k) (hb.2 k) (car_le ha hb k))) ?_; rintro v22 w22 ⟨rfl, K22⟩; refine .inl ⟨rfl, Keep nof w22, ?_⟩
    have M22 := M12.step K22
    refine WP.p rfl rfl rfl rfl (fun _ => Ex.mv rfl) ?_
    refine WP.p rfl rfl rfl rfl (fun _ => Ex.ext rfl rfl) ?_
    refine WP.p rfl rfl rfl rfl (fun _ => Ex.ext rfl rfl) ?_
    refine WP.p rfl rfl rfl rfl (fun _ => Ex.iaA Tryd.underlying48 sz23 rfl rfl ⟨by omega, by omega⟩) ?_
    refine WP.a0 rfl rfl rfl (Ac.st M22 ty23 rfl rfl rfl (i := 0) rfl (by simp; omega)) ?_; rintro v27 w27 ⟨K27, M27⟩; refine .inl ⟨rfl, Keep nof w27, ?_⟩
    try dsimp only [List.set] at M27
    simp only [Int.toNat_natCast, Nat.mul_one, Nat.zero_add, List.getElem_toArray, List.getElem_cons_zero] at M27
    rw [intV_set, show (a.getD k 0 + b.getD k 0 + car a b k) % 18446744073709551616 = lmb a b k from rfl, fillTo_set] at M27
    refine WP.p rfl rfl rfl rfl (fun _ => Ex.asg rfl) ?_
    refine WP.nil ?_
    refine WX.normal_block (WX.next (?_))
    refine WC.region ?_
    refine WL.ex rfl rfl rfl (Ex.add rfl rfl (i64w _ (by omega) (by omega))) ?_
    refine WL.ex rfl rfl rfl (Ex.mv rfl) ?_
    refine WL.nil ?_
    refine WX.again (k + 1) ?_ ?_ (.cons rfl (.cons rfl (.cons rfl (.cons rfl (.cons rfl (.cons rfl (.cons rfl (.nil))))))))
    · (try dsimp only); omega
    · exact ⟨by omega, M27⟩
  · obtain rfl : k = 4 := by omega
    refine WC.exit ?_
    refine WX.exit_then (WX.exit_then (WX.exit_block (WX.next (?_))))
    refine WC.seq ?_
    refine WC.seq ?_
    refine WC.region ?_
    refine WL.ex rfl rfl rfl (Ex.mv rfl) ?_
    refine WL.ex rfl rfl rfl (Ex.neI rfl rfl) ?_
    refine WL.nil ?_
    refine WX.next (?_)
    refine WC.cond rfl (fun h30 => ?_) (fun h30 => ?_)
    · have hne : ¬ ((car a b 4 : Nat) : Int) = 0 := by simpa using h30
      have hch := chain_1 ha hb (by omega)
      refine WC.seq ?_
      refine WC.region ?_
      refine WL.ex rfl rfl rfl (Ex.bld bd48 (parts := []) (l := intV [0, 0, 0, 0]) rfl rfl rfl rfl) ?_
      refine WL.ac0 rfl rfl (Ac.stA M8 ty48 rfl rfl rfl (int4_len (by first | assumption | exact int4_0)) (intV_one _) (i := 1) rfl (by first | (rw [int4_len (by first | assumption | exact int4_0), int4_len (by first | assumption | exact int4_0)]; decide) | (rw [int4_len (by first | assumption | exact int4_0)]; decide) | rw [int4_len (by first | assumption | exact int4_0)])) ?_; rintro v34 w34 ⟨K34, M34⟩
      try dsimp only [List.set] at M34
      rw [splice_all _ _ (by first | rw [int4_len (by first | assumption | exact int4_0), int4_len (by first | assumption | exact int4_0)] | rw [int4_len (by first | assumption | exact int4_0)])] at M34
      refine WL.ex rfl rfl rfl (Ex.asg rfl) ?_
      refine WL.nil ?_
      refine WX.next (?_)
      refine WC.ret ?_
      refine WX.ret_then (?_)
      refine WX.retn rfl (.cell rfl (run_loadVarA ty48 (int4_len (by first | assumption | exact int4_0)) (M34.rdw (i := 1) rfl)) (.tmp rfl .nil)) rfl ?_
      rw [hch]
      exact ⟨rfl, M34.keep⟩
    · have hne : ((car a b 4 : Nat) : Int) = 0 := by simpa using h30
      have hch := chain_0 ha hb (by omega)
      refine WC.skip ?_
      refine WX.next (?_)
      refine WC.seq ?_
      refine WC.region ?_
      refine WL.ex rfl rfl rfl (Ex.loadA ty48 rfl (int4_len (by first | assumption | exact int4_0)) (M8.rdw (i := 0) rfl)) ?_
      refine WL.ac0 rfl rfl (Ac.stA M8 ty48 rfl rfl rfl (int4_len (by first | assumption | exact int4_0)) (intV_one _) (i := 1) rfl (by first | (rw [int4_len (by first | assumption | exact int4_0), int4_len (by first | assumption | exact int4_0)]; decide) | (rw [int4_len (by first | assumption | exact int4_0)]; decide) | rw [int4_len (by first | assumption | exact int4_0)])) ?_; rintro v37 w37 ⟨K37, M37⟩
      try dsimp only [List.set] at M37
      rw [splice_all _ _ (by first | rw [int4_len (by first | assumption | exact int4_0), int4_len (by first | assumption | exact int4_0)] | rw [int4_len (by first | assumption | exact int4_0)])] at M37
      refine WL.ex rfl rfl rfl (Ex.asg rfl) ?_
      refine WL.nil ?_
      refine WX.next (?_)
      refine WC.ret ?_
      refine WX.retn rfl (.cell rfl (run_loadVarA ty48 (int4_len (by first | assumption | exact int4_0)) (M37.rdw (i := 1) rfl)) (.tmp rfl .nil)) rfl ?_
      rw [hch]
      exact ⟨rfl, M37.keep⟩

/- sponsion/huge.Add -/
theorem hAdd_ok (w : World) (a b : List Nat) (ha : Int4 a) (hb : Int4 b) :
    Gives Tryd.prog 82 #[.agg (intV a).toArray, .agg (intV b).toArray] w fun u w1 => u = .tuple #[.agg (intV (addI (v64 a) (v64 b)).1).toArray, .int .i64 (addI (v64 a) (v64 b)).2] ∧ Keep nof w w1 := by
  have M0 := Mem.start w nof
  have hao := addI_ok (v64 a) (v64 b)
  refine Gives.enter (n := 11) Tryd.func82 rfl Tryd.ntmps82 rfl (env := [(0, .agg (intV a).toArray), (1, .agg (intV b).toArray)]) rfl ?_
  refine WC.seq ?_
  refine WC.region ?_
  refine WL.ac rfl rfl rfl (Ac.box M0 rfl rfl) ?_; rintro v1 w1 ⟨g1, rfl, hg1, K1, M1⟩
  refine WL.ac rfl rfl rfl (Ac.box M1 rfl rfl) ?_; rintro v2 w2 ⟨g2, rfl, hg2, K2, M2⟩
  refine WL.ac rfl rfl rfl (Ac.alloc M2 (l := intV [0, 0, 0, 0]) (by kernel_rfl)) ?_; rintro v3 w3 ⟨g3, rfl, hg3, K3, M3⟩
  refine WL.ex rfl rfl rfl (Ex.asg rfl) ?_
  refine WL.nil ?_
  refine WX.next (?_)
  refine WC.seq ?_
  refine WC.region ?_
  refine WL.ex rfl rfl rfl (Ex.loadA ty48 rfl (int4_len (by first | assumption | exact int4_0)) (M3.rdw (i := 2) rfl)) ?_
  refine WL.ex rfl rfl rfl (Ex.loadA ty48 rfl (int4_len (by first | assumption | exact int4_0)) (M3.rdw (i := 1) rfl)) ?_
  refine WL.ac rfl rfl rfl (Ac.call rfl Tryd.func98 nm98 rfl (chain_ok w3 a b (.func (.func 99) #[] #[]) ha hb (fun w' x y c hx hy hc => ⟨_, _, [], [], rfl, Tryd.func99, by kernel_rfl, rfl, ladd_ok w' x y c hx hy hc⟩))) ?_; rintro v7 w7 ⟨rfl, K7⟩
  have M7 := M3.step K7
  refine WL.ex rfl rfl rfl (Ex.ext rfl rfl) ?_
  refine WL.ex rfl rfl rfl (Ex.ext rfl rfl) ?_
  refine WL.ac0 rfl rfl (Ac.stA M7 ty48 rfl rfl rfl (int4_len (by first | assumption | exact int4_0)) (intV_one _) (i := 0) rfl (by first | (rw [int4_len (by first | assumption | exact int4_0), int4_len (by first | assumption | exact int4_0)]; decide) | (rw [int4_len (by first | assumption | exact int4_0)]; decide) | rw [int4_len (by first | assumption | exact int4_0)])) ?_; rintro v10 w10 ⟨K10, M10⟩
  try dsimp only [List.set] at M10
  rw [splice_all _ _ (by first | rw [int4_len (by first | assumption | exact int4_0), int4_len (by first | assumption | exact int4_0)] | rw [int4_len (by first | assumption | exact int4_0)])] at M10
  refine WL.ex rfl rfl rfl (Ex.asg rfl) ?_
  refine WL.nil ?_
  refine WX.next (?_)
  refine WC.ret ?_
  refine WX.retn rfl (.cell rfl (run_loadVarA ty48 (int4_len (by first | assumption | exact int4_0)) (M10.rdw (i := 0) rfl)) (.tmp rfl .nil)) rfl ?_
  exact ⟨rfl, M10.keep⟩

/- sponsion/huge.Sum -/
theorem hSum_ok (w : World) (A : Option Addr) (c : Nat) (xs : List (List Nat)) (hr : Rd w A (xs.flatMap intV)) (hok : ∀ a ∈ xs, Int4 a) (hb : xs.length ≤ 1000000) :
    Gives Tryd.prog 49 #[.slice A xs.length c] w fun u w1 => u = .tuple #[.agg (intV (sumI (vsum xs)).1).toArray, .int .i64 (sumI (vsum xs)).2] ∧ Keep nof w w1 := by
  have M0 := Mem.start w nof
  refine Gives.enter (n := 26) Tryd.func49 rfl Tryd.ntmps49 rfl (env := [(0, .slice A xs.length c)]) rfl ?_
  refine WC.seq ?_
  refine WC.region ?_
  refine WL.ac rfl rfl rfl (Ac.alloc M0 (l := intV [0, 0, 0, 0]) (by kernel_rfl)) ?_; rintro v1 w1 ⟨gr, rfl, hg1, K1, M1⟩
  refine WL.ex rfl rfl rfl (Ex.asg rfl) ?_
  refine WL.nil ?_
  refine WX.next (?_)
  refine WC.seq ?_
  refine WC.region ?_
  refine WL.ac rfl rfl rfl (Ac.alloc M1 (l := intV [0, 0, 0, 0]) (by kernel_rfl)) ?_; rintro v3 w3 ⟨go, rfl, hg3, K3, M3⟩
  refine WL.nil ?_
  refine WX.next (?_)
  refine WC.seq ?_
  refine WC.seq ?_
  refine WC.region ?_
  refine WL.ex rfl rfl rfl (Ex.mv rfl) ?_
  refine WL.ex rfl rfl rfl (Ex.len Tryd.underlying102 rfl) ?_
  refine WL.ex rfl rfl rfl (Ex.mv rfl) ?_
  refine WL.nil ?_
  refine WX.next (?_)
  refine WC.block ?_
  refine WC.loop (σ := Nat) (fun i => [(2, .pointer (some ⟨gr, 0, none⟩)), (4, .pointer (some ⟨go, 0, none⟩)), (8, .slice A xs.length c), (9, .int .i64 (xs.length : Int)), (10, .int .i64 (i : Int))]) (fun i wr => i ≤ xs.length ∧ vsum (xs.take i) < M256 ∧ Mem w wr nof [blk go (intV (lm4 (vsum (xs.take i)))) 48, blk gr (intV [0, 0, 0, 0]) 48]) (fun i => xs.length - i) (0) ?_ (.cons rfl (.cons rfl (.cons rfl (.cons rfl (.cons rfl (.nil)))))) ?_
  · refine ⟨by omega, by rw [List.take_zero]; decide, ?_⟩
    rw [List.take_zero, show lm4 (vsum []) = [0, 0, 0, 0] by decide]
    exact M3
  rintro i w7 ⟨hi, hv, M7⟩
  refine WC.seq ?_
  refine WC.region ?_
  refine WL.ex rfl rfl rfl (Ex.lss rfl rfl) ?_
  refine WL.nil ?_
  refine WX.next (?_)
  refine WC.seq ?_
  refine WC.cond_dec rfl (fun hc11 => ?_) (fun hc11 => ?_)
  · obtain ⟨p, hpi⟩ : ∃ p, xs[i]? = some p := ⟨_, List.getElem?_eq_getElem (by omega)⟩
    have hpm : p ∈ xs := List.mem_of_getElem? hpi
    have hpo := hok p hpm
    obtain ⟨b0, o0, hA⟩ := hr.flat_plain hpm (by rw [int4_len hpo]; omega)
    subst hA
    have hlo := lm4_ok (vsum (xs.take i))
    have hadd : addI (v64 (lm4 (vsum (xs.take i)))) (v64 p) = sumI (vsum (xs.take (i + 1))) := by
      rw [v64_lm4 hv, take_snoc hpi, vsum_snoc]
      rfl
    have hso := sumI_ok (vsum (xs.take (i + 1)))
    refine WC.skip ?_
    refine WX.next (?_)
    refine WC.seq ?_
    refine WC.block ?_
    refine WC.seq ?_
    refine WC.region ?_
    refine WL.ex rfl rfl rfl (Ex.ia Tryd.underlying102 sz48 rfl rfl ⟨by omega, by omega⟩) ?_
    refine WL.ex rfl rfl rfl (Ex.loadA ty48 rfl (l := intV p) (int4_len hpo) (Rd.flat (M7.rd hr) (i := (i : Int).toNat) (fun t ht => int4_len (hok t ht)) (by simpa using hpi))) ?_
    refine WL.ac rfl rfl rfl (Ac.alloc M7 (l := intV [0, 0, 0, 0]) (by kernel_rfl)) ?_; rintro v11 w11 ⟨gx, rfl, hg11, K11, M11⟩
    refine WL.ac0 rfl rfl (Ac.stA M11 ty48 rfl rfl rfl (int4_len (by first | assumption | exact int4_0)) (intV_one _) (i := 0) rfl (by first | (rw [int4_len (by first | assumption | exact int4_0), int4_len (by first | assumption | exact int4_0)]; decide) | (rw [int4_len (by first | assumption | exact int4_0)]; decide) | rw [int4_len (by first | assumption | exact int4_0)])) ?_; rintro v12 w12 ⟨K12, M12⟩
    try dsimp only [List.set] at M12
    rw [splice_all _ _ (by first | rw [int4_len (by first | assumption | exact int4_0), int4_len (by first | assumption | exact int4_0)] | rw [int4_len (by first | assumption | exact int4_0)])] at M12
    refine WL.nil ?_
    refine WX.next (?_)
    refine WC.seq ?_
    refine WC.region ?_
    refine WL.ex rfl rfl rfl (Ex.asg rfl) ?_
    refine WL.nil ?_
    refine WX.next (?_)
    refine WC.seq ?_
    refine WC.region ?_
    refine WL.ex rfl rfl rfl (Ex.loadA ty48 rfl (int4_len (by first | assumption | exact int4_0)) (M12.rdw (i := 1) rfl)) ?_
    refine WL.ex rfl rfl rfl (Ex.loadA ty48 rfl (int4_len (by first | assumption | exact int4_0)) (M12.rdw (i := 0) rfl)) ?_
    refine WL.ac rfl rfl rfl (Ac.call rfl Tryd.func82 nm82 rfl (hAdd_ok w12 (lm4 (vsum (xs.take i))) p hlo hpo)) ?_; rintro v16 w16 ⟨rfl, K16⟩
    rw [hadd]
    have M16 := M12.step K16
    refine WL.ex rfl rfl rfl (Ex.mv rfl) ?_
    refine WL.ex rfl rfl rfl (Ex.ext rfl rfl) ?_
    refine WL.ex rfl rfl rfl (Ex.ext rfl rfl) ?_
    refine WL.ac0 rfl rfl (Ac.stA M16 ty48 rfl rfl rfl (int4_len (by first | assumption | exact int4_0)) (intV_one _) (i := 1) rfl (by first | (rw [int4_len (by first | assumption | exact int4_0), int4_len (by first | assumption | exact int4_0)]; decide) | (rw [int4_len (by first | assumption | exact int4_0)]; decide) | rw [int4_len (by first | assumption | exact int4_0)])) ?_; rintro v20 w20 ⟨K20, M20⟩
    try dsimp only [List.set] at M20
    rw [splice_all _ _ (by first | rw [int4_len (by first | assumption | exact int4_0), int4_len (by first | assumption | exact int4_0)] | rw [int4_len (by first | assumption | exact int4_0)])] at M20
    refine WL.ex rfl rfl rfl (Ex.asg rfl) ?_
    refine WL.nil ?_
    refine WX.next (?_)
    refine WC.seq ?_
    refine WC.region ?_
    refine WL.ex rfl rfl rfl (Ex.mv rfl) ?_
    refine WL.ex rfl rfl rfl (Ex.neI rfl rfl) ?_
    by_cases hbig : ¬ vsum (xs.take (i + 1)) < M256
    · rw [sumI_1 hbig] at M20 ⊢
      have hfin : sumI (vsum xs) = (z4, 2) := sumI_1 (by have := vsum_take xs (i + 1); omega)
      refine WL.nil ?_
      refine WX.next (?_)
      refine WC.yes rfl ?_
      refine WC.seq ?_
      refine WC.region ?_
      refine WL.ex rfl rfl rfl (Ex.bld bd48 (parts := []) (l := intV [0, 0, 0, 0]) rfl rfl rfl rfl) ?_
      refine WL.ex rfl rfl rfl (Ex.mv rfl) ?_
      refine WL.ac0 rfl rfl (Ac.stA M20 ty48 rfl rfl rfl (int4_len (by first | assumption | exact int4_0)) (intV_one _) (i := 2) rfl (by first | (rw [int4_len (by first | assumption | exact int4_0), int4_len (by first | assumption | exact int4_0)]; decide) | (rw [int4_len (by first | assumption | exact int4_0)]; decide) | rw [int4_len (by first | assumption | exact int4_0)])) ?_; rintro v26 w26 ⟨K26, M26⟩
      try dsimp only [List.set] at M26
      rw [splice_all _ _ (by first | rw [int4_len (by first | assumption | exact int4_0), int4_len (by first | assumption | exact int4_0)] | rw [int4_len (by first | assumption | exact int4_0)])] at M26
      refine WL.ex rfl rfl rfl (Ex.asg rfl) ?_
      refine WL.nil ?_
      refine WX.next (?_)
      refine WC.ret ?_
      refine WX.ret_block (WX.ret_then (WX.ret_then (WX.ret_block (WX.ret_then (?_)))))
      refine WX.retn rfl (.cell rfl (run_loadVarA ty48 (int4_len (by first | assumption | exact int4_0)) (M26.rdw (i := 2) rfl)) (.tmp rfl .nil)) rfl ?_
      rw [hfin]
      exact ⟨rfl, M26.keep⟩
    · replace hbig := Decidable.not_not.1 hbig
      rw [sumI_0 hbig] at M20 ⊢
      refine WL.nil ?_
      refine WX.next (?_)
      refine WC.no rfl ?_
      refine WC.skip ?_
      refine WX.normal_block (WX.next (?_))
      refine WC.region ?_
      refine WL.ex rfl rfl rfl (Ex.add rfl rfl (i64w _ (by omega) (by omega))) ?_
      refine WL.ex rfl rfl rfl (Ex.mv rfl) ?_
      refine WL.nil ?_
      refine WX.again (i + 1) ?_ ?_ (.cons rfl (.cons rfl (.cons rfl (.cons rfl (.cons rfl (.nil))))))
      · (try dsimp only); omega
      · exact ⟨by omega, hbig, (Mem.sub M20 (.cons _ (.refl _)))⟩
  · obtain rfl : i = xs.length := by omega
    rw [List.take_length] at hv M7
    have hfin := sumI_0 hv
    have hlo := lm4_ok (vsum xs)
    refine WC.exit ?_
    refine WX.exit_then (WX.exit_then (WX.exit_block (WX.next (?_))))
    refine WC.seq ?_
    refine WC.region ?_
    refine WL.ex rfl rfl rfl (Ex.loadA ty48 rfl (int4_len (by first | assumption | exact int4_0)) (M7.rdw (i := 0) rfl)) ?_
    refine WL.ac0 rfl rfl (Ac.stA M7 ty48 rfl rfl rfl (int4_len (by first | assumption | exact int4_0)) (intV_one _) (i := 1) rfl (by first | (rw [int4_len (by first | assumption | exact int4_0), int4_len (by first | assumption | exact int4_0)]; decide) | (rw [int4_len (by first | assumption | exact int4_0)]; decide) | rw [int4_len (by first | assumption | exact int4_0)])) ?_; rintro v31 w31 ⟨K31, M31⟩
    try dsimp only [List.set] at M31
    rw [splice_all _ _ (by first | rw [int4_len (by first | assumption | exact int4_0), int4_len (by first | assumption | exact int4_0)] | rw [int4_len (by first | assumption | exact int4_0)])] at M31
    refine WL.ex rfl rfl rfl (Ex.asg rfl) ?_
    refine WL.nil ?_
    refine WX.next (?_)
    refine WC.ret ?_
    refine WX.retn rfl (.cell rfl (run_loadVarA ty48 (int4_len (by first | assumption | exact int4_0)) (M31.rdw (i := 1) rfl)) (.tmp rfl .nil)) rfl ?_
    rw [hfin]
    exact ⟨rfl, M31.keep⟩

end Go.Proofs.YtchmjpdkonfifaaDoor
