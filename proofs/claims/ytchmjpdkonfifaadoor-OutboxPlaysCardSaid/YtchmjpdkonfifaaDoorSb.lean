/- Walks, written by gen.py off the translation's own print: each says what the Go function comes to. -/
import Derived.Test.YtchmjpdkonfifaaDoorSa
set_option linter.unusedVariables false
set_option linter.unusedSimpArgs false
namespace Go.Proofs.YtchmjpdkonfifaaDoor
open Go.Sx Go.RowKit
attribute [local irreducible] Ac Ex WL WC WX WP Gives

/- sponsion/sponsionref01.at -/
theorem at1_ok (w : World) (A : Option Addr) (c : Nat) (l : List Nat) (i : Nat) (hr : Rd w A (i64V l)) :
    Gives Tryd.prog 83 #[.slice A l.length c, .int .i64 (i : Int)] w fun u w1 => u = .int .i64 ((l.getD i 0 : Nat) : Int) ∧ Keep nof w w1 := by
  have M0 := Mem.start w nof
  refine Gives.enter (n := 13) Tryd.func83 rfl Tryd.ntmps83 rfl (env := [(0, .slice A l.length c), (1, .int .i64 (i : Int))]) rfl ?_
  refine WC.seq ?_
  refine WC.region ?_
  refine WL.ex rfl rfl rfl (Ex.asg rfl) ?_
  refine WL.nil ?_
  refine WX.next (?_)
  refine WC.seq ?_
  refine WC.seq ?_
  refine WC.region ?_
  refine WL.ex rfl rfl rfl (Ex.mv rfl) ?_
  refine WL.ex rfl rfl rfl (Ex.mv rfl) ?_
  refine WL.ex rfl rfl rfl (Ex.len Tryd.underlying104 rfl) ?_
  refine WL.ex rfl rfl rfl (Ex.lss rfl rfl) ?_
  refine WL.nil ?_
  refine WX.next (?_)
  refine WC.cond_dec rfl (fun hc8 => ?_) (fun hc8 => ?_)
  · obtain ⟨x, hx⟩ : ∃ x, l[i]? = some x := ⟨_, List.getElem?_eq_getElem (by omega)⟩
    have hg : l.getD i 0 = x := by rw [List.getD, hx]; rfl
    obtain ⟨b0, o0, hA, _⟩ := hr.plain (by rw [i64V_length]; omega)
    subst hA
    refine WC.seq ?_
    refine WC.region ?_
    refine WL.ex rfl rfl rfl (Ex.mv rfl) ?_
    refine WL.ex rfl rfl rfl (Ex.mv rfl) ?_
    refine WL.ex rfl rfl rfl (Ex.ia Tryd.underlying104 sz3 rfl rfl ⟨by omega, by omega⟩) ?_
    refine WL.ex rfl rfl rfl (Ex.load ty3 rfl (by have hq := (M0.rd hr).at1 (i64V_get hx); simpa using hq)) ?_
    refine WL.ex rfl rfl rfl (Ex.asg rfl) ?_
    refine WL.nil ?_
    refine WX.next (?_)
    refine WC.ret ?_
    refine WX.ret_then (?_)
    refine WX.ret1 rfl rfl ?_
    rw [hg]
    exact ⟨rfl, M0.keep⟩
  · have hg : l.getD i 0 = 0 := by rw [List.getD, List.getElem?_eq_none (by omega)]; rfl
    refine WC.skip ?_
    refine WX.next (?_)
    refine WC.seq ?_
    refine WC.region ?_
    refine WL.ex rfl rfl rfl (Ex.asg rfl) ?_
    refine WL.nil ?_
    refine WX.next (?_)
    refine WC.ret ?_
    refine WX.ret1 rfl rfl ?_
    rw [hg]
    exact ⟨rfl, M0.keep⟩

/- sponsion/sponsionref01.Trim -/
theorem trim_ok (w : World) (A : Option Addr) (c : Nat) (l : List Nat) (hr : Rd w A (i64V l)) (hc : l.length ≤ c) (hcm : c ≤ maxLen) :
    Gives Tryd.prog 84 #[.slice A l.length c] w fun u w1 => ∃ n, Trm l n ∧ u = .slice A n c ∧ Keep nof w w1 := by
  have M0 := Mem.start w nof
  unfold maxLen at hcm
  refine Gives.enter (n := 21) Tryd.func84 rfl Tryd.ntmps84 rfl (env := [(0, .slice A l.length c)]) rfl ?_
  refine WC.seq ?_
  refine WC.region ?_
  refine WL.ex rfl rfl rfl (Ex.asg rfl) ?_
  refine WL.nil ?_
  refine WX.next (?_)
  refine WC.seq ?_
  refine WC.region ?_
  refine WL.ex rfl rfl rfl (Ex.mv rfl) ?_
  refine WL.ex rfl rfl rfl (Ex.len Tryd.underlying104 rfl) ?_
  refine WL.ex rfl rfl rfl (Ex.asg rfl) ?_
  refine WL.nil ?_
  refine WX.next (?_)
  refine WC.seq ?_
  refine WC.block ?_
  refine WC.loop (σ := Nat) (fun n => [(0, .slice A l.length c), (3, .int .i64 (n : Int))]) (fun n wr => n ≤ l.length ∧ dv (l.take n) = dv l ∧ Mem w wr nof []) (fun n => n) (l.length) ?_ (.cons rfl (.cons rfl (.nil))) ?_
  · exact ⟨Nat.le_refl _, by rw [List.take_length], M0⟩
  rintro n w5 ⟨hn, hv, M5⟩
  refine WC.seq ?_
  refine WC.seq ?_
  refine WC.region ?_
  refine WL.ex rfl rfl rfl (Ex.mv rfl) ?_
  refine WL.ex rfl rfl rfl (Ex.gtr rfl rfl) ?_
  refine WL.ex rfl rfl rfl (Ex.mv rfl) ?_
  by_cases h2 : (n : Int) > 0
  · rw [decide_eq_true h2]
    obtain ⟨x, hx⟩ : ∃ x, l[n - 1]? = some x := ⟨_, List.getElem?_eq_getElem (by omega)⟩
    obtain ⟨b0, o0, hA, _⟩ := hr.plain (by rw [i64V_length]; omega)
    subst hA
    refine WL.yes rfl rfl rfl rfl ?_
    refine WL.ex rfl rfl rfl (Ex.mv rfl) ?_
    refine WL.yes rfl rfl rfl rfl ?_
    refine WL.ex rfl rfl rfl (Ex.mv rfl) ?_
    refine WL.yes rfl rfl rfl rfl ?_
    refine WL.ex rfl rfl rfl (Ex.sub rfl rfl (c := ((n - 1 : Nat) : Int)) (by rw [show (n : Int) - 1 = ((n - 1 : Nat) : Int) by omega]; exact i64w _ (by omega) (by omega))) ?_
    refine WL.yes rfl rfl rfl rfl ?_
    refine WL.ex rfl rfl rfl (Ex.ia Tryd.underlying104 sz3 rfl rfl ⟨by omega, by omega⟩) ?_
    refine WL.yes rfl rfl rfl rfl ?_
    refine WL.ex rfl rfl rfl (Ex.load ty3 rfl (by have hq := (M5.rd hr).at1 (i64V_get hx); simpa using hq)) ?_
    refine WL.yes rfl rfl rfl rfl ?_
    refine WL.ex rfl rfl rfl (Ex.eqI rfl rfl) ?_
    by_cases h3 : (x : Int) = 0
    · rw [decide_eq_true h3]
      have hx0 : x = 0 := by omega
      refine WL.ex rfl rfl rfl (Ex.pickT rfl rfl) ?_
      refine WL.nil ?_
      refine WX.next (?_)
      refine WC.yes rfl ?_
      refine WC.skip ?_
      refine WX.next (?_)
      refine WC.block ?_
      refine WC.region ?_
      refine WL.ex rfl rfl rfl (Ex.mv rfl) ?_
      refine WL.ex rfl rfl rfl (Ex.sub rfl rfl (c := ((n - 1 : Nat) : Int)) (by rw [show (n : Int) - 1 = ((n - 1 : Nat) : Int) by omega]; exact i64w _ (by omega) (by omega))) ?_
      refine WL.ex rfl rfl rfl (Ex.asg rfl) ?_
      refine WL.nil ?_
      refine WX.normal_block (?_)
      refine WX.again (n - 1) ?_ ?_ (.cons rfl (.cons rfl (.nil)))
      · omega
      · refine ⟨by omega, ?_, M5⟩
        exact trm_step (by rw [Nat.sub_add_cancel (by omega)]; exact hv) (by rw [hx, hx0])
    · rw [decide_eq_false h3]
      have htr : Trm l n := ⟨hn, hv, .inr ⟨x, hx, by omega⟩⟩
      refine WL.ex rfl rfl rfl (Ex.pickT rfl rfl) ?_
      refine WL.nil ?_
      refine WX.next (?_)
      refine WC.no rfl ?_
      refine WC.exit ?_
      refine WX.exit_then (WX.exit_then (WX.exit_block (WX.next (?_))))
      refine WC.seq ?_
      refine WC.region ?_
      refine WL.ex rfl rfl rfl (Ex.mv rfl) ?_
      refine WL.ex rfl rfl rfl (Ex.mv rfl) ?_
      refine WL.ex rfl rfl rfl (Ex.slh Tryd.underlying104 sz3 rfl rfl (Int.natCast_nonneg _) (by omega)) ?_
      rw [Int.toNat_natCast]
      refine WL.ex rfl rfl rfl (Ex.asg rfl) ?_
      refine WL.nil ?_
      refine WX.next (?_)
      refine WC.ret ?_
      refine WX.ret1 rfl rfl ?_
      exact ⟨_, htr, rfl, M5.keep⟩
  · rw [decide_eq_false h2]
    obtain rfl : n = 0 := by omega
    have htr : Trm l 0 := ⟨Nat.zero_le _, hv, .inl rfl⟩
    refine WL.no rfl rfl rfl rfl rfl rfl ?_
    refine WL.no rfl rfl rfl rfl rfl rfl ?_
    refine WL.no rfl rfl rfl rfl rfl rfl ?_
    refine WL.no rfl rfl rfl rfl rfl rfl ?_
    refine WL.no rfl rfl rfl rfl rfl rfl ?_
    refine WL.no rfl rfl rfl rfl rfl rfl ?_
    refine WL.ex rfl rfl rfl (Ex.pickF rfl rfl) ?_
    refine WL.nil ?_
    refine WX.next (?_)
    refine WC.no rfl ?_
    refine WC.exit ?_
    refine WX.exit_then (WX.exit_then (WX.exit_block (WX.next (?_))))
    refine WC.seq ?_
    refine WC.region ?_
    refine WL.ex rfl rfl rfl (Ex.mv rfl) ?_
    refine WL.ex rfl rfl rfl (Ex.mv rfl) ?_
    refine WL.ex rfl rfl rfl (Ex.slh Tryd.underlying104 sz3 rfl rfl (Int.natCast_nonneg _) (by omega)) ?_
    rw [Int.toNat_natCast]
    refine WL.ex rfl rfl rfl (Ex.asg rfl) ?_
    refine WL.nil ?_
    refine WX.next (?_)
    refine WC.ret ?_
    refine WX.ret1 rfl rfl ?_
    exact ⟨_, htr, rfl, M5.keep⟩

/- sponsion/sponsionref01.Add -/
theorem rAdd_ok (w : World) (A B : Option Addr) (c d : Nat) (a b : List Nat) (ha : Rd w A (i64V a)) (hb : Rd w B (i64V b)) (da : Dig a) (db : Dig b) (la : a.length ≤ 1000000) (lb : b.length ≤ 1000000) :
    Gives Tryd.prog 50 #[.slice A a.length c, .slice B b.length d] w fun u w1 => ∃ l, Dig l ∧ dv l = dv a + dv b ∧ l.length ≤ max a.length b.length + 1 ∧ New w w1 (row u 3 1 l.length (i64V l)) := by
  have M0 := (Mem.start w nof).free (r := row (.slice none 0 0) 3 1 0 []) (row_nil _ _ _) rfl
  obtain ⟨m, hm⟩ : ∃ m, m = max a.length b.length := ⟨_, rfl⟩
  refine Gives.enter (n := 40) Tryd.func50 rfl Tryd.ntmps50 rfl (env := [(0, .slice A a.length c), (1, .slice B b.length d)]) rfl ?_
  refine WC.seq ?_
  refine WC.region ?_
  refine WL.ex rfl rfl rfl (Ex.asg rfl) ?_
  refine WL.nil ?_
  refine WX.next (?_)
  refine WC.seq ?_
  refine WC.region ?_
  refine WL.ex rfl rfl rfl (Ex.asg rfl) ?_
  refine WL.nil ?_
  refine WX.next (?_)
  refine WC.seq ?_
  refine WC.region ?_
  refine WL.ex rfl rfl rfl (Ex.asg rfl) ?_
  refine WL.nil ?_
  refine WX.next (?_)
  refine WC.seq ?_
  refine WC.seq ?_
  refine WC.region ?_
  refine WL.ex rfl rfl rfl (Ex.asg rfl) ?_
  refine WL.nil ?_
  refine WX.next (?_)
  refine WC.block ?_
  refine WC.loop (σ := Nat × Value) (fun s => [(0, .slice A a.length c), (1, .slice B b.length d), (5, s.2), (6, .int .i64 ((dcar a b s.1 : Nat) : Int)), (7, .int .i64 (s.1 : Int))]) (fun s wr => s.1 ≤ m + 1 ∧ (s.1 = m + 1 → dcar a b s.1 = 0) ∧ Mem w wr nof [row s.2 3 1 s.1 (i64V (drow a b s.1))]) (fun s => m + 1 - s.1) (((0, .slice none 0 0) : Nat × Value)) ?_ (.cons rfl (.cons rfl (.cons rfl (.cons rfl (.cons rfl (.nil)))))) ?_
  · exact ⟨by simp, by dsimp only; omega, M0⟩
  rintro ⟨i, v⟩ w5 ⟨hi, hie, M5⟩
  dsimp only at hi hie M5
  refine WC.sub (env' := [(0, .slice A a.length c), (1, .slice B b.length d), (5, v), (6, .int .i64 ((dcar a b i : Nat) : Int)), (7, .int .i64 (i : Int))]) (.cons rfl (.cons rfl (.cons rfl (.cons rfl (.cons rfl (.nil)))))) ?_
  refine WC.seq ?_
  refine WC.seq ?_
  refine WC.region ?_
  have hcl := dcar_le da db i
  refine WL.ex rfl rfl rfl (Ex.mv rfl) ?_
  refine WL.ex rfl rfl rfl (Ex.mv rfl) ?_
  refine WL.ex rfl rfl rfl (Ex.len Tryd.underlying104 rfl) ?_
  refine WL.ex rfl rfl rfl (Ex.mv rfl) ?_
  refine WL.ex rfl rfl rfl (Ex.len Tryd.underlying104 rfl) ?_
  refine WL.ex rfl rfl rfl (Ex.max2 rfl rfl rfl) ?_
  rw [show (if (a.length : Int) < (b.length : Int) then (b.length : Int) else (a.length : Int)) = ((m : Nat) : Int) by split <;> omega]
  refine WL.ex rfl rfl rfl (Ex.lss rfl rfl) ?_
  refine WL.ex rfl rfl rfl (Ex.mv rfl) ?_
  by_cases h4 : (i : Int) < (m : Int)
  · rw [decide_eq_true h4]
    have him : i ≤ m := by omega
    refine WL.no rfl rfl rfl rfl rfl rfl ?_
    refine WL.no rfl rfl rfl rfl rfl rfl ?_
    refine WL.ex rfl rfl rfl (Ex.pickT rfl rfl) ?_
    refine WL.nil ?_
    refine WX.next (?_)
    refine WC.yes rfl ?_
    refine WC.skip ?_
    refine WX.next (?_)
    refine WC.seq ?_
    refine WC.block ?_
    refine WC.seq ?_
    refine WC.region ?_
    have hg1 := dig_getD da i
    have hg2 := dig_getD db i
    obtain ⟨x, hx⟩ : ∃ x, x = a.getD i 0 + b.getD i 0 + dcar a b i := ⟨_, rfl⟩
    have hxm : x % 65536 = ddig a b i := by rw [hx]; rfl
    have hxd : x / 65536 = dcar a b (i + 1) := by rw [hx]; rfl
    refine WL.ex rfl rfl rfl (Ex.mv rfl) ?_
    refine WL.ex rfl rfl rfl (Ex.mv rfl) ?_
    refine WL.ac rfl rfl rfl (Ac.call rfl Tryd.func83 nm83 rfl (at1_ok w5 A c a i (M5.rd ha))) ?_; rintro v17 w17 ⟨rfl, K17⟩
    have M17 := M5.step K17
    refine WL.ex rfl rfl rfl (Ex.mv rfl) ?_
    refine WL.ex rfl rfl rfl (Ex.mv rfl) ?_
    refine WL.ac rfl rfl rfl (Ac.call rfl Tryd.func83 nm83 rfl (at1_ok w17 B d b i (M17.rd hb))) ?_; rintro v20 w20 ⟨rfl, K20⟩
    have M20 := M17.step K20
    refine WL.ex rfl rfl rfl (Ex.add rfl rfl (c := ((a.getD i 0 + b.getD i 0 : Nat) : Int)) (by rw [← Int.natCast_add]; exact i64w _ (by omega) (by omega))) ?_
    refine WL.ex rfl rfl rfl (Ex.mv rfl) ?_
    refine WL.ex rfl rfl rfl (Ex.add rfl rfl (c := ((x : Nat) : Int)) (by rw [← Int.natCast_add, ← hx]; exact i64w _ (by omega) (by omega))) ?_
    refine WL.ex rfl rfl rfl (Ex.asg rfl) ?_
    refine WL.nil ?_
    refine WX.next (?_)
    refine WC.seq ?_
    refine WC.region ?_
    refine WL.ex rfl rfl rfl (Ex.mv rfl) ?_
    refine WL.ex rfl rfl rfl (Ex.mv rfl) ?_
    refine WL.ex rfl rfl rfl (Ex.rem rfl rfl (by decide) (c := ((ddig a b i : Nat) : Int)) (by rw [← hxm]; exact (Int.ofNat_tmod x 65536).symm)) ?_
    refine WL.ac rfl rfl rfl (Ac.bs M20 (parts := [(0, .tmp 33)]) (l := i64V [ddig a b i]) rfl rfl (LitS.one el104 rfl)) ?_; rintro v28 w28 ⟨gs, rfl, hg28, K28, M28⟩
    refine WL.ac rfl rfl rfl (Ac.app M28 el104 rfl rfl (i := 1) rfl (by simp) (M28.rdw (i := 0) rfl) (i64V_one [ddig a b i]) (by omega) (by unfold maxLen; omega)) ?_; rintro v29 w29 ⟨K29, M29⟩
    try dsimp only [List.set] at M29
    rw [← i64V_app, ← drow_succ] at M29
    refine WL.ex rfl rfl rfl (Ex.asg rfl) ?_
    refine WL.nil ?_
    refine WX.next (?_)
    refine WC.region ?_
    refine WL.ex rfl rfl rfl (Ex.mv rfl) ?_
    refine WL.ex rfl rfl rfl (Ex.quo rfl rfl (by decide) (c := ((dcar a b (i + 1) : Nat) : Int)) (by rw [← hxd, show (x : Int).tdiv 65536 = ((x / 65536 : Nat) : Int) from (Int.ofNat_tdiv x 65536).symm]; exact i64w _ (by omega) (by omega))) ?_
    refine WL.ex rfl rfl rfl (Ex.asg rfl) ?_
    refine WL.nil ?_
    refine WX.normal_block (WX.next (?_))
    refine WC.region ?_
    refine WL.ex rfl rfl rfl (Ex.mv rfl) ?_
    refine WL.ex rfl rfl rfl (Ex.add rfl rfl (i64w _ (by omega) (by omega))) ?_
    refine WL.ex rfl rfl rfl (Ex.asg rfl) ?_
    refine WL.nil ?_
    refine WX.again (((i + 1, v29) : Nat × Value)) ?_ ?_ (.cons rfl (.cons rfl (.cons rfl (.cons rfl (.cons rfl (.nil))))))
    · dsimp only; omega
    · exact ⟨by dsimp only; omega, by dsimp only; intro he; exact dcar_end da db (by omega) (by omega), (Mem.sub M29 (.cons _ (.refl _)))⟩
  · rw [decide_eq_false h4]
    refine WL.yes rfl rfl rfl rfl ?_
    refine WL.ex rfl rfl rfl (Ex.mv rfl) ?_
    refine WL.yes rfl rfl rfl rfl ?_
    refine WL.ex rfl rfl rfl (Ex.gtr rfl rfl) ?_
    by_cases h5 : ((dcar a b i : Nat) : Int) > 0
    · rw [decide_eq_true h5]
      have him : i ≤ m := by
        rcases Nat.lt_or_ge m i with h | h
        · have := hie (by omega)
          omega
        · exact h
      refine WL.ex rfl rfl rfl (Ex.pickF rfl rfl) ?_
      refine WL.nil ?_
      refine WX.next (?_)
      refine WC.yes rfl ?_
      refine WC.skip ?_
      refine WX.next (?_)
      refine WC.seq ?_
      refine WC.block ?_
      refine WC.seq ?_
      refine WC.region ?_
      have hg1 := dig_getD da i
      have hg2 := dig_getD db i
      obtain ⟨x, hx⟩ : ∃ x, x = a.getD i 0 + b.getD i 0 + dcar a b i := ⟨_, rfl⟩
      have hxm : x % 65536 = ddig a b i := by rw [hx]; rfl
      have hxd : x / 65536 = dcar a b (i + 1) := by rw [hx]; rfl
      refine WL.ex rfl rfl rfl (Ex.mv rfl) ?_
      refine WL.ex rfl rfl rfl (Ex.mv rfl) ?_
      refine WL.ac rfl rfl rfl (Ac.call rfl Tryd.func83 nm83 rfl (at1_ok w5 A c a i (M5.rd ha))) ?_; rintro v42 w42 ⟨rfl, K42⟩
      have M42 := M5.step K42
      refine WL.ex rfl rfl rfl (Ex.mv rfl) ?_
      refine WL.ex rfl rfl rfl (Ex.mv rfl) ?_
      refine WL.ac rfl rfl rfl (Ac.call rfl Tryd.func83 nm83 rfl (at1_ok w42 B d b i (M42.rd hb))) ?_; rintro v45 w45 ⟨rfl, K45⟩
      have M45 := M42.step K45
      refine WL.ex rfl rfl rfl (Ex.add rfl rfl (c := ((a.getD i 0 + b.getD i 0 : Nat) : Int)) (by rw [← Int.natCast_add]; exact i64w _ (by omega) (by omega))) ?_
      refine WL.ex rfl rfl rfl (Ex.mv rfl) ?_
      refine WL.ex rfl rfl rfl (Ex.add rfl rfl (c := ((x : Nat) : Int)) (by rw [← Int.natCast_add, ← hx]; exact i64w _ (by omega) (by omega))) ?_
      refine WL.ex rfl rfl rfl (Ex.asg rfl) ?_
      refine WL.nil ?_
      refine WX.next (?_)
      refine WC.seq ?_
      refine WC.region ?_
      refine WL.ex rfl rfl rfl (Ex.mv rfl) ?_
      refine WL.ex rfl rfl rfl (Ex.mv rfl) ?_
      refine WL.ex rfl rfl rfl (Ex.rem rfl rfl (by decide) (c := ((ddig a b i : Nat) : Int)) (by rw [← hxm]; exact (Int.ofNat_tmod x 65536).symm)) ?_
      refine WL.ac rfl rfl rfl (Ac.bs M45 (parts := [(0, .tmp 33)]) (l := i64V [ddig a b i]) rfl rfl (LitS.one el104 rfl)) ?_; rintro v53 w53 ⟨gs, rfl, hg53, K53, M53⟩
      refine WL.ac rfl rfl rfl (Ac.app M53 el104 rfl rfl (i := 1) rfl (by simp) (M53.rdw (i := 0) rfl) (i64V_one [ddig a b i]) (by omega) (by unfold maxLen; omega)) ?_; rintro v54 w54 ⟨K54, M54⟩
      try dsimp only [List.set] at M54
      rw [← i64V_app, ← drow_succ] at M54
      refine WL.ex rfl rfl rfl (Ex.asg rfl) ?_
      refine WL.nil ?_
      refine WX.next (?_)
      refine WC.region ?_
      refine WL.ex rfl rfl rfl (Ex.mv rfl) ?_
      refine WL.ex rfl rfl rfl (Ex.quo rfl rfl (by decide) (c := ((dcar a b (i + 1) : Nat) : Int)) (by rw [← hxd, show (x : Int).tdiv 65536 = ((x / 65536 : Nat) : Int) from (Int.ofNat_tdiv x 65536).symm]; exact i64w _ (by omega) (by omega))) ?_
      refine WL.ex rfl rfl rfl (Ex.asg rfl) ?_
      refine WL.nil ?_
      refine WX.normal_block (WX.next (?_))
      refine WC.region ?_
      refine WL.ex rfl rfl rfl (Ex.mv rfl) ?_
      refine WL.ex rfl rfl rfl (Ex.add rfl rfl (i64w _ (by omega) (by omega))) ?_
      refine WL.ex rfl rfl rfl (Ex.asg rfl) ?_
      refine WL.nil ?_
      refine WX.again (((i + 1, v54) : Nat × Value)) ?_ ?_ (.cons rfl (.cons rfl (.cons rfl (.cons rfl (.cons rfl (.nil))))))
      · dsimp only; omega
      · exact ⟨by dsimp only; omega, by dsimp only; intro he; exact dcar_end da db (by omega) (by omega), (Mem.sub M54 (.cons _ (.refl _)))⟩
    · rw [decide_eq_false h5]
      have hend := drow_end (a := a) (b := b) (i := i) (by omega) (by omega) (by omega)
      refine WL.ex rfl rfl rfl (Ex.pickF rfl rfl) ?_
      refine WL.nil ?_
      refine WX.next (?_)
      refine WC.no rfl ?_
      refine WC.exit ?_
      refine WX.exit_then (WX.exit_then (WX.exit_block (WX.next (?_))))
      refine WC.seq ?_
      refine WC.region ?_
      obtain ⟨Ao, co, rfl⟩ := own_slice (M5.get (i := 0) rfl)
      have hco := own_cap2 (M5.get (i := 0) rfl)
      have hco1 : (drow a b i).length ≤ co := by rw [drow_len]; exact hco.1
      have hco2 : co ≤ maxLen := hco.2
      refine WL.ex rfl rfl rfl (Ex.mv rfl) ?_
      refine WL.ac rfl rfl rfl (Ac.call rfl Tryd.func84 nm84 rfl ((by
        have hx := trim_ok w5 Ao co (drow a b i) (M5.rdr (i := 0) rfl) hco1 hco2
        rw [drow_len] at hx
        exact hx))) ?_; rintro v64 w64 ⟨q, hq, rfl, K64⟩
      have M64 := M5.step K64
      refine WL.ex rfl rfl rfl (Ex.asg rfl) ?_
      refine WL.nil ?_
      refine WX.next (?_)
      refine WC.ret ?_
      refine WX.ret1 rfl rfl ?_
      have hql := hq.le
      rw [drow_len] at hql
      have Mx := M64.cutI (i := 0) rfl hql
      refine ⟨(drow a b i).take q, dig_take (drow_dig a b i) q, by rw [hq.val, hend], by rw [List.length_take, drow_len]; omega, ?_⟩
      rw [List.length_take, drow_len, Nat.min_eq_left hql]
      exact (Mem.sub Mx (.cons_cons _ (List.nil_sublist _))).toNew

end Go.Proofs.YtchmjpdkonfifaaDoor
