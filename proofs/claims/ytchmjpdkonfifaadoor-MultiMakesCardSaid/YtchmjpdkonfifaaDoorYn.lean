/- Walks, written by gen.py off the translation's own print: each says what the Go function comes to. -/
import Derived.Test.YtchmjpdkonfifaaDoorY7
set_option linter.unusedVariables false
set_option linter.unusedSimpArgs false
namespace Go.Proofs.YtchmjpdkonfifaaDoor
open Go.Sx Go.RowKit
attribute [local irreducible] Ac Ex WL WC WX WP Gives sha

theorem needs_in (w : World) (A : Option Addr) (c d : Nat) (xs : List Nat) (hd : d ≤ 32) (h0 : 0 < xs.length) (hx : ∀ x ∈ xs, x < 2 ^ d) (hr : Rd w A (u64V xs)) (hn50 : xs.length < 50) :
    Gives Tryd.prog 33 #[.int .i64 (d : Int), .slice A xs.length c] w fun u w1 => ∃ zs, Rise xs zs ∧ u = .tuple #[.int .i64 (cnt d zs : Int), .int .i64 0] ∧ Keep nof w w1 := by
  have h32 := pow32 hd
  refine (needs_ok w A c (d : Int) xs hr (gv_lt (fun x hx1 => by have := hx x hx1; omega) (by decide)) hn50).mono fun u w1 => ?_
  rintro ⟨n, e, rfl, K, hq⟩
  rw [if_neg (by omega), if_neg (by omega), if_neg (by
    rw [Bool.not_eq_true, List.any_eq_false]
    intro x hx1
    have := hx x hx1
    simp
    omega)] at hq
  obtain ⟨rfl, zs, h1, rfl⟩ := hq
  exact ⟨zs, h1, by rw [Int.toNat_natCast], K⟩
theorem needs_zero (w : World) (d : Nat) (hd : d ≤ 32) : Gives Tryd.prog 33 #[.int .i64 (d : Int), .slice none 0 0] w fun u w1 => ∃ n : Nat, u = .tuple #[.int .i64 (n : Int), .int .i64 3] ∧ Keep nof w w1 := by
  refine (needs_ok w none 0 (d : Int) [] (Rd.nil _ _) (fun k => by simp [gv]) (by decide)).mono fun u w1 => ?_
  rintro ⟨n, e, rfl, K, hq⟩
  rw [if_neg (by omega), if_pos (show ([] : List Nat).length = 0 from rfl)] at hq
  obtain ⟨rfl, rfl⟩ := hq
  exact ⟨_, rfl, K⟩
theorem needs_deep (w : World) (A : Option Addr) (c : Nat) (xs : List Nat) (hr : Rd w A (u64V xs)) (hx : ∀ k, gv xs k < 18446744073709551616) (hn50 : xs.length < 50) : Gives Tryd.prog 33 #[.int .i64 33, .slice A xs.length c] w fun u w1 => ∃ n : Nat, u = .tuple #[.int .i64 (n : Int), .int .i64 1] ∧ Keep nof w w1 := by
  refine (needs_ok w A c 33 xs hr hx hn50).mono fun u w1 => ?_
  rintro ⟨n, e, rfl, K, hq⟩
  rw [if_pos (by omega)] at hq
  obtain ⟨rfl, rfl⟩ := hq
  exact ⟨_, rfl, K⟩
theorem needs_far (w : World) (A : Option Addr) (c d x : Nat) (hd : d ≤ 32) (hr : Rd w A (u64V [x])) (hx : x < 18446744073709551616) (h : 2 ^ d ≤ x) : Gives Tryd.prog 33 #[.int .i64 (d : Int), .slice A (List.length [x]) c] w fun u w1 => ∃ n : Nat, u = .tuple #[.int .i64 (n : Int), .int .i64 10] ∧ Keep nof w w1 := by
  refine (needs_ok w A c (d : Int) [x] hr (gv_lt (by simpa using hx) (by decide)) (by simp)).mono fun u w1 => ?_
  rintro ⟨n, e, rfl, K, hq⟩
  rw [if_neg (by omega), if_neg (by simp), if_pos (by simpa using h)] at hq
  obtain ⟨rfl, rfl⟩ := hq
  exact ⟨_, rfl, K⟩
theorem range_u64 (n : Nat) : u64V (List.range n) ++ [.int .u64 (n : Int)] = u64V (List.range (n + 1)) := by rw [List.range_succ, u64V_append]; rfl
theorem map_snoc {xs : List Nat} {i : Nat} (f : Nat → Nat) (h : i < xs.length) : (xs.take (i + 1)).map f = (xs.take i).map f ++ [f (gv xs i)] := by rw [take_snoc (gv_get h), List.map_append]; rfl
theorem ok_u64s {w : World} {v : Value} (h : CK.ok w (.sl [.int .u64]) v) : ∃ A c, ∃ xs : List Nat, v = .slice A xs.length c ∧ xs.length ≤ c ∧ c ≤ maxLen ∧ Rd w A (u64V xs) ∧ ∀ x ∈ xs, x < 18446744073709551616 := by
  obtain ⟨A, c, es, h1, h2, h3, h4, h5⟩ := sl_view h (fun x : Nat => [(.int .u64 (x : Int) : Value)]) (fun x => x < 18446744073709551616) (view_one (f := fun n : Nat => (.int .u64 (n : Int) : Value)) v_u64)
  refine ⟨A, c, es, h1, h2, h3, ?_, h5⟩
  have e : es.flatMap (fun x : Nat => [(.int .u64 (x : Int) : Value)]) = u64V es := by
    clear h1 h2 h3 h4 h5
    induction es with
    | nil => rfl
    | cons a l ih => rw [List.flatMap_cons, ih]; rfl
  rw [← e]; exact h4

/- sponsion/sponsionlaw33.MultiNeeds -/
theorem multiNeeds_walk (w : World) (x : Nat) (A : Option Addr) (c : Nat) (xs : List Nat) (more : Nat) (hx : x < 256) (hr : Rd w A (u64V xs)) (hxs : ∀ v ∈ xs, v < 18446744073709551616) (hmo : more < 18446744073709551616) (hT : Tabs w) :
    Gives Tryd.prog 7 #[.int .u8 (x : Int), .slice A xs.length c, .int .u64 (more : Int)] w fun u w1 => u = .bool true ∧ Keep nof w w1 := by
  have M0 := Mem.start w nof
  obtain ⟨d, hd⟩ : ∃ d, d = x % 33 := ⟨_, rfl⟩
  have hd32 : d ≤ 32 := by omega
  have hp2 := pow32 hd32
  obtain ⟨D, hD⟩ : ∃ D, D = 2 ^ d := ⟨_, rfl⟩
  have hD1 : 1 ≤ D := by rw [hD]; exact Nat.pow_pos (by decide)
  have hD2 : D ≤ 4294967296 := by omega
  obtain ⟨y, hy⟩ : ∃ y, y = more % D := ⟨_, rfl⟩
  have hyD : y < D := by rw [hy]; exact Nat.mod_lt _ (by omega)
  obtain ⟨ys, hys⟩ : ∃ ys, ys = xs.map (· % D) := ⟨_, rfl⟩
  have hyl : ys.length = xs.length := by rw [hys]; simp
  have hyb : ∀ v ∈ ys, v < 2 ^ d := by
    intro v hv
    rw [hys] at hv
    obtain ⟨u, _, rfl⟩ := List.mem_map.1 hv
    rw [← hD]; exact Nat.mod_lt _ (by omega)
  have hyb2 : ∀ v ∈ ys ++ [y], v < 2 ^ d := by
    intro v hv
    rcases List.mem_append.1 hv with h | h
    · exact hyb v h
    · obtain rfl := List.mem_singleton.1 h
      omega
  refine Gives.enter (n := 159) Tryd.func7 rfl Tryd.ntmps7 rfl (env := [(0, .int .u8 (x : Int)), (1, .slice A xs.length c), (2, .int .u64 (more : Int))]) rfl ?_
  refine WC.seq ?_
  refine WC.region ?_
  refine WL.ex rfl rfl rfl (Ex.asg rfl) ?_
  refine WL.nil ?_
  refine WX.next (?_)
  refine WC.seq ?_
  refine WC.seq ?_
  refine WC.region ?_
  refine WL.ac rfl rfl rfl (Ac.call rfl Tryd.func29 nm29 rfl (lives33_ok w (hT.keep M0.keep))) ?_; rintro v2 w2 ⟨rfl, K2⟩
  have M2 := M0.step K2
  refine WL.ex rfl rfl rfl (Ex.not rfl) ?_
  refine WL.ex rfl rfl rfl (Ex.mv rfl) ?_
  refine WL.yes rfl rfl rfl rfl ?_
  refine WL.ex rfl rfl rfl (Ex.mv rfl) ?_
  refine WL.yes rfl rfl rfl rfl ?_
  refine WL.ex rfl rfl rfl (Ex.len Tryd.underlying67 rfl) ?_
  refine WL.yes rfl rfl rfl rfl ?_
  refine WL.ex rfl rfl rfl (Ex.gtr rfl rfl) ?_
  refine WL.ex rfl rfl rfl (Ex.pickF rfl rfl) ?_
  refine WL.nil ?_
  refine WX.next (?_)
  refine WC.cond_dec rfl (fun hc34 => ?_) (fun hc34 => ?_)
  · skip
    refine WC.seq ?_
    refine WC.region ?_
    refine WL.ac rfl rfl rfl (Ac.call rfl Tryd.func29 nm29 rfl (lives33_ok w2 (hT.keep M2.keep))) ?_; rintro v9 w9 ⟨rfl, K9⟩
    have M9 := M2.step K9
    refine WL.ex rfl rfl rfl (Ex.asg rfl) ?_
    refine WL.nil ?_
    refine WX.next (?_)
    refine WC.ret ?_
    refine WX.ret_then (?_)
    refine WX.ret1 rfl rfl ?_
    exact ⟨rfl, M9.keep⟩
  · have hn20 : xs.length ≤ 20 := by omega
    refine WC.skip ?_
    refine WX.next (?_)
    refine WC.seq ?_
    refine WC.region ?_
    refine WL.ex rfl rfl rfl (Ex.mv rfl) ?_
    refine WL.ex rfl rfl rfl (Ex.rem rfl rfl (by decide) (c := ((d : Nat) : Int)) (by rw [hd]; exact tmodT _ 33)) ?_
    refine WL.ex rfl rfl rfl (Ex.cvI Tryd.underlying5 Tryd.underlying3 rfl (i64w _ (by omega) (by omega))) ?_
    refine WL.ex rfl rfl rfl (Ex.asg rfl) ?_
    refine WL.nil ?_
    refine WX.next (?_)
    refine WC.seq ?_
    refine WC.region ?_
    refine WL.ex rfl rfl rfl (Ex.mv rfl) ?_
    refine WL.ac rfl rfl rfl (Ac.call rfl Tryd.func36 nm36 rfl (places_ok w2 d 0 hd32 (by decide))) ?_; rintro v16 w16 ⟨rfl, K16⟩
    rw [places_0, ← hD]
    have M16 := M2.step K16
    refine WL.ex rfl rfl rfl (Ex.asg rfl) ?_
    refine WL.nil ?_
    refine WX.next (?_)
    refine WC.cut (σ := Unit) (fun _u => [(1, .slice A xs.length c), (2, .int .u64 (more : Int)), (7, .int .i64 (d : Int)), (8, .int .u64 (D : Int))]) (fun _u wr => Mem w wr nof []) ?_ ?_
    ·
      refine WC.seq ?_
      refine WC.region ?_
      refine WL.ex rfl rfl rfl (Ex.mv rfl) ?_
      refine WL.ex rfl rfl rfl (Ex.leq rfl rfl) ?_
      refine WL.nil ?_
      refine WX.next (?_)
      refine WC.cond_dec rfl (fun h42 => ?_) (fun h42 => ?_)
      · have hD32 : D ≤ 32 := by
          rw [hD]
          exact Nat.le_trans (Nat.pow_le_pow_right (by decide) (show d ≤ 5 by omega)) (by decide)
        refine WC.seq ?_
        refine WC.region ?_
        refine WL.ex rfl rfl rfl (Ex.asg rfl) ?_
        refine WL.nil ?_
        refine WX.next (?_)
        refine WC.seq ?_
        refine WC.seq ?_
        refine WC.region ?_
        refine WL.ex rfl rfl rfl (Ex.mv rfl) ?_
        refine WL.ex rfl rfl rfl (Ex.mv rfl) ?_
        refine WL.nil ?_
        refine WX.next (?_)
        refine WC.block ?_
        refine WC.loop (σ := Nat × Value) (fun s => [(1, .slice A xs.length c), (2, .int .u64 (more : Int)), (7, .int .i64 (d : Int)), (8, .int .u64 (D : Int)), (9, s.2), (43, .int .u64 (D : Int)), (44, .int .u64 (s.1 : Int))]) (fun s wr => s.1 ≤ D ∧ Mem w wr nof [row s.2 23 1 (List.length (List.range s.1)) (u64V (List.range s.1))]) (fun s => D - s.1) (((0, .slice none 0 0) : Nat × Value)) ?_ (.cons rfl (.cons rfl (.cons rfl (.cons rfl (.cons rfl (.cons rfl (.cons rfl (.nil)))))))) ?_
        · exact ⟨by simp, (M16.free (r := row (.slice none 0 0) 23 1 0 []) (row_nil _ _ _) rfl)⟩
        rintro ⟨i, v⟩ w23 ⟨hi, M23⟩
        dsimp only at hi M23
        refine WC.sub (env' := [(1, .slice A xs.length c), (2, .int .u64 (more : Int)), (7, .int .i64 (d : Int)), (8, .int .u64 (D : Int)), (9, v), (43, .int .u64 (D : Int)), (44, .int .u64 (i : Int))]) (.cons rfl (.cons rfl (.cons rfl (.cons rfl (.cons rfl (.cons rfl (.cons rfl (.nil)))))))) ?_
        refine WC.seq ?_
        refine WC.region ?_
        refine WL.ex rfl rfl rfl (Ex.lss rfl rfl) ?_
        refine WL.nil ?_
        refine WX.next (?_)
        refine WC.seq ?_
        refine WC.cond_dec rfl (fun hc45 => ?_) (fun hc45 => ?_)
        · have hrl : (List.range i).length = i := by simp
          refine WC.skip ?_
          refine WX.next (?_)
          refine WC.seq ?_
          refine WC.block ?_
          refine WC.seq ?_
          refine WC.region ?_
          refine WL.ex rfl rfl rfl (Ex.mv rfl) ?_
          refine WL.ex rfl rfl rfl (Ex.asg rfl) ?_
          refine WL.nil ?_
          refine WX.next (?_)
          refine WC.region ?_
          refine WL.ex rfl rfl rfl (Ex.mv rfl) ?_
          refine WL.ex rfl rfl rfl (Ex.mv rfl) ?_
          refine WL.ac rfl rfl rfl (Ac.bs M23 (parts := [(0, .tmp 48)]) (l := u64V [i]) rfl rfl (LitS.one el67 rfl)) ?_; rintro v29 w29 ⟨gs, rfl, hg29, K29, M29⟩
          refine WL.ac rfl rfl rfl (Ac.app M29 el67 rfl rfl (i := 1) rfl (by simp) (M29.rdw (i := 0) rfl) (u64V_one _) (by omega) (by unfold maxLen; omega)) ?_; rintro v30 w30 ⟨K30, M30⟩
          try dsimp only [List.set] at M30
          rw [← u64V_append, show (List.range i).length + 1 = (List.range i ++ [i]).length by simp, ← List.range_succ] at M30
          refine WL.ex rfl rfl rfl (Ex.asg rfl) ?_
          refine WL.nil ?_
          refine WX.normal_block (WX.next (?_))
          refine WC.region ?_
          refine WL.ex rfl rfl rfl (Ex.add rfl rfl (c := ((i + 1 : Nat) : Int)) (by rw [show (i : Int) + 1 = ((i + 1 : Nat) : Int) by omega]; exact u64w_lt _ (by omega))) ?_
          refine WL.ex rfl rfl rfl (Ex.mv rfl) ?_
          refine WL.nil ?_
          refine WX.again (((i + 1, v30) : Nat × Value)) ?_ ?_ (.cons rfl (.cons rfl (.cons rfl (.cons rfl (.cons rfl (.cons rfl (.cons rfl (.nil))))))))
          · dsimp only; omega
          · exact ⟨by dsimp only; omega, (Mem.sub M30 (.cons _ (.refl _)))⟩
        · obtain rfl : i = D := by omega
          obtain ⟨Al, cl, rfl⟩ := own_slice (M23.get (i := 0) rfl)
          refine WC.exit ?_
          refine WX.exit_then (WX.exit_then (WX.exit_block (WX.next (?_))))
          refine WC.seq ?_
          refine WC.region ?_
          refine WL.ex rfl rfl rfl (Ex.mv rfl) ?_
          refine WL.ex rfl rfl rfl (Ex.mv rfl) ?_
          refine WL.ac rfl rfl rfl (Ac.call rfl Tryd.func33 nm33 rfl (needs_in w23 Al cl d (List.range i) hd32 (by simp; omega) (fun v hv => by have := List.mem_range.1 hv; omega) (M23.rdr (i := 0) rfl) (by simp; omega))) ?_; rintro v36 w36 ⟨za, hza, rfl, K36⟩
          have M36 := M23.step K36
          have hza0 : cnt d za = 0 := by
            rw [rise_eq hza (List.pairwise_lt_range) (fun v => Iff.rfl), hD]
            exact cnt_all d (by omega)
          rw [hza0]
          refine WL.ex rfl rfl rfl (Ex.mv rfl) ?_
          refine WL.ex rfl rfl rfl (Ex.ext rfl rfl) ?_
          refine WL.ex rfl rfl rfl (Ex.ext rfl rfl) ?_
          refine WL.ex rfl rfl rfl (Ex.asg rfl) ?_
          refine WL.ex rfl rfl rfl (Ex.asg rfl) ?_
          refine WL.nil ?_
          refine WX.next (?_)
          refine WC.seq ?_
          refine WC.region ?_
          refine WL.ex rfl rfl rfl (Ex.mv rfl) ?_
          refine WL.ex rfl rfl rfl (Ex.neIf rfl rfl (rfl)) ?_
          refine WL.ex rfl rfl rfl (Ex.mv rfl) ?_
          refine WL.yes rfl rfl rfl rfl ?_
          refine WL.ex rfl rfl rfl (Ex.mv rfl) ?_
          refine WL.yes rfl rfl rfl rfl ?_
          refine WL.ex rfl rfl rfl (Ex.neIf rfl rfl (rfl)) ?_
          refine WL.ex rfl rfl rfl (Ex.pickF rfl rfl) ?_
          refine WL.nil ?_
          refine WX.next (?_)
          refine WC.no rfl ?_
          refine WC.skip ?_
          refine WX.join (()) ?_ (.cons rfl (.cons rfl (.cons rfl (.cons rfl (.nil)))))
          exact (Mem.sub M36 (List.nil_sublist _))
      · skip
        refine WC.skip ?_
        refine WX.join (()) ?_ (.cons rfl (.cons rfl (.cons rfl (.cons rfl (.nil)))))
        exact M16
    · rintro _u w48 M48
      refine WC.seq ?_
      refine WC.region ?_
      refine WL.ex rfl rfl rfl (Ex.asg rfl) ?_
      refine WL.nil ?_
      refine WX.next (?_)
      refine WC.seq ?_
      refine WC.seq ?_
      refine WC.region ?_
      refine WL.ex rfl rfl rfl (Ex.mv rfl) ?_
      refine WL.ex rfl rfl rfl (Ex.len Tryd.underlying67 rfl) ?_
      refine WL.ex rfl rfl rfl (Ex.mv rfl) ?_
      refine WL.nil ?_
      refine WX.next (?_)
      refine WC.block ?_
      refine WC.loop (σ := Nat × Value) (fun s => [(2, .int .u64 (more : Int)), (7, .int .i64 (d : Int)), (8, .int .u64 (D : Int)), (13, s.2), (64, .slice A xs.length c), (65, .int .i64 (xs.length : Int)), (66, .int .i64 (s.1 : Int))]) (fun s wr => s.1 ≤ xs.length ∧ Mem w wr nof [row s.2 23 1 (List.length ((xs.take s.1).map (· % D))) (u64V ((xs.take s.1).map (· % D)))]) (fun s => xs.length - s.1) (((0, .slice none 0 0) : Nat × Value)) ?_ (.cons rfl (.cons rfl (.cons rfl (.cons rfl (.cons rfl (.cons rfl (.cons rfl (.nil)))))))) ?_
      · exact ⟨by simp, (M48.free (r := row (.slice none 0 0) 23 1 0 []) (row_nil _ _ _) rfl)⟩
      rintro ⟨i, v⟩ w53 ⟨hi, M53⟩
      dsimp only at hi M53
      refine WC.sub (env' := [(2, .int .u64 (more : Int)), (7, .int .i64 (d : Int)), (8, .int .u64 (D : Int)), (13, v), (64, .slice A xs.length c), (65, .int .i64 (xs.length : Int)), (66, .int .i64 (i : Int))]) (.cons rfl (.cons rfl (.cons rfl (.cons rfl (.cons rfl (.cons rfl (.cons rfl (.nil)))))))) ?_
      refine WC.seq ?_
      refine WC.region ?_
      refine WL.ex rfl rfl rfl (Ex.lss rfl rfl) ?_
      refine WL.nil ?_
      refine WX.next (?_)
      refine WC.seq ?_
      refine WC.cond_dec rfl (fun hc67 => ?_) (fun hc67 => ?_)
      · obtain ⟨b0, o0, hA, _⟩ := hr.plain (by simp; omega)
        subst hA
        have hmd := Nat.mod_lt (gv xs i) (show 0 < D by omega)
        have hml : ((xs.take i).map (· % D)).length = i := by simp; omega
        have hms : (xs.take (i + 1)).map (· % D) = (xs.take i).map (· % D) ++ [gv xs i % D] := map_snoc _ (by omega)
        refine WC.skip ?_
        refine WX.next (?_)
        refine WC.seq ?_
        refine WC.block ?_
        refine WC.seq ?_
        refine WC.region ?_
        refine WL.ex rfl rfl rfl (Ex.ia Tryd.underlying67 sz23 rfl rfl ⟨by omega, by omega⟩) ?_
        refine WL.ex rfl rfl rfl (Ex.load ty23 rfl (u64_at (M53.rd hr) (k := i) (by omega) (by omega))) ?_
        refine WL.ex rfl rfl rfl (Ex.asg rfl) ?_
        refine WL.nil ?_
        refine WX.next (?_)
        refine WC.region ?_
        refine WL.ex rfl rfl rfl (Ex.mv rfl) ?_
        refine WL.ex rfl rfl rfl (Ex.mv rfl) ?_
        refine WL.ex rfl rfl rfl (Ex.mv rfl) ?_
        refine WL.ex rfl rfl rfl (Ex.rem rfl rfl (by omega) (c := ((gv xs i % D : Nat) : Int)) (tmodT _ _)) ?_
        refine WL.ac rfl rfl rfl (Ac.bs M53 (parts := [(0, .tmp 73)]) (l := u64V [gv xs i % D]) rfl rfl (LitS.one el67 rfl)) ?_; rintro v62 w62 ⟨gs, rfl, hg62, K62, M62⟩
        refine WL.ac rfl rfl rfl (Ac.app M62 el67 rfl rfl (i := 1) rfl (by simp) (M62.rdw (i := 0) rfl) (u64V_one _) (by omega) (by unfold maxLen; omega)) ?_; rintro v63 w63 ⟨K63, M63⟩
        try dsimp only [List.set] at M63
        rw [← u64V_append, show ((xs.take i).map (· % D)).length + 1 = ((xs.take i).map (· % D) ++ [gv xs i % D]).length by simp, ← hms] at M63
        refine WL.ex rfl rfl rfl (Ex.asg rfl) ?_
        refine WL.nil ?_
        refine WX.normal_block (WX.next (?_))
        refine WC.region ?_
        refine WL.ex rfl rfl rfl (Ex.add rfl rfl (i64w _ (by omega) (by omega))) ?_
        refine WL.ex rfl rfl rfl (Ex.mv rfl) ?_
        refine WL.nil ?_
        refine WX.again (((i + 1, v63) : Nat × Value)) ?_ ?_ (.cons rfl (.cons rfl (.cons rfl (.cons rfl (.cons rfl (.cons rfl (.cons rfl (.nil))))))))
        · dsimp only; omega
        · exact ⟨by dsimp only; omega, (Mem.sub M63 (.cons _ (.refl _)))⟩
      · obtain rfl : i = xs.length := by omega
        rw [List.take_length, ← hys] at M53
        obtain ⟨Ay, cy, rfl⟩ := own_slice (M53.get (i := 0) rfl)
        refine WC.exit ?_
        refine WX.exit_then (WX.exit_then (WX.exit_block (WX.next (?_))))
        refine WC.seq ?_
        refine WC.region ?_
        refine WL.ex rfl rfl rfl (Ex.mv rfl) ?_
        refine WL.ex rfl rfl rfl (Ex.mv rfl) ?_
        refine WL.ex rfl rfl rfl (Ex.mv rfl) ?_
        refine WL.ex rfl rfl rfl (Ex.rem rfl rfl (by omega) (c := ((y : Nat) : Int)) (by rw [hy]; exact tmodT _ _)) ?_
        refine WL.ac rfl rfl rfl (Ac.bs M53 (parts := [(0, .tmp 81)]) (l := u64V [y]) rfl rfl (LitS.one el67 rfl)) ?_; rintro v71 w71 ⟨gm, rfl, hg71, K71, M71⟩
        refine WL.ac rfl rfl rfl (Ac.call rfl Tryd.func33 nm33 rfl (needs_in w71 (some ⟨gm, 0, none⟩) 1 d ([y]) hd32 (by simp) (fun v hv => by obtain rfl := List.mem_singleton.1 hv; omega) (M71.rdw (i := 0) rfl) (by simp))) ?_; rintro v72 w72 ⟨zb, hzb, rfl, K72⟩
        have M72 := M71.step K72
        have hzb0 : cnt d zb = d := by rw [rise0 hzb]; exact cnt_one d y
        rw [hzb0]
        refine WL.ex rfl rfl rfl (Ex.mv rfl) ?_
        refine WL.ex rfl rfl rfl (Ex.ext rfl rfl) ?_
        refine WL.ex rfl rfl rfl (Ex.ext rfl rfl) ?_
        refine WL.ex rfl rfl rfl (Ex.asg rfl) ?_
        refine WL.ex rfl rfl rfl (Ex.asg rfl) ?_
        refine WL.nil ?_
        refine WX.next (?_)
        refine WC.seq ?_
        refine WC.seq ?_
        refine WC.region ?_
        refine WL.ex rfl rfl rfl (Ex.mv rfl) ?_
        refine WL.ex rfl rfl rfl (Ex.mv rfl) ?_
        refine WL.ex rfl rfl rfl (Ex.neIf rfl rfl (rfl)) ?_
        refine WL.ex rfl rfl rfl (Ex.mv rfl) ?_
        refine WL.yes rfl rfl rfl rfl ?_
        refine WL.ex rfl rfl rfl (Ex.mv rfl) ?_
        refine WL.yes rfl rfl rfl rfl ?_
        refine WL.ex rfl rfl rfl (Ex.neIf rfl rfl (rfl)) ?_
        refine WL.ex rfl rfl rfl (Ex.pickF rfl rfl) ?_
        refine WL.nil ?_
        refine WX.next (?_)
        refine WC.no rfl ?_
        refine WC.skip ?_
        refine WX.next (?_)
        refine WC.seq ?_
        refine WC.seq ?_
        refine WC.region ?_
        refine WL.ex rfl rfl rfl (Ex.mv rfl) ?_
        refine WL.ex rfl rfl rfl (Ex.len Tryd.underlying67 rfl) ?_
        refine WL.ex rfl rfl rfl (Ex.eqI rfl rfl) ?_
        refine WL.nil ?_
        refine WX.next (?_)
        refine WC.cond_dec rfl (fun h95 => ?_) (fun h95 => ?_)
        · have hy0 : ys.length = 0 := by omega
          refine WC.seq ?_
          refine WC.region ?_
          refine WL.ex rfl rfl rfl (Ex.mv rfl) ?_
          refine WL.ac rfl rfl rfl (Ac.call rfl Tryd.func33 nm33 rfl (needs_zero w72 d hd32)) ?_; rintro v89 w89 ⟨na, rfl, K89⟩
          have M89 := M72.step K89
          refine WL.ex rfl rfl rfl (Ex.mv rfl) ?_
          refine WL.ex rfl rfl rfl (Ex.ext rfl rfl) ?_
          refine WL.ex rfl rfl rfl (Ex.ext rfl rfl) ?_
          refine WL.ex rfl rfl rfl (Ex.asg rfl) ?_
          refine WL.ex rfl rfl rfl (Ex.asg rfl) ?_
          refine WL.nil ?_
          refine WX.next (?_)
          refine WC.seq ?_
          refine WC.region ?_
          refine WL.ac rfl rfl rfl (Ac.bs M89 (parts := [(0, .const (.int .u64 0))]) (l := u64V [0]) rfl rfl (LitS.one el67 rfl)) ?_; rintro v95 w95 ⟨go, rfl, hg95, K95, M95⟩
          refine WL.ac rfl rfl rfl (Ac.call rfl Tryd.func33 nm33 rfl (needs_deep w95 (some ⟨go, 0, none⟩) 1 [0] (M95.rdw (i := 0) rfl) (gv_lt (by simp) (by decide)) (by decide))) ?_; rintro v96 w96 ⟨nb, rfl, K96⟩
          have M96 := M95.step K96
          refine WL.ex rfl rfl rfl (Ex.mv rfl) ?_
          refine WL.ex rfl rfl rfl (Ex.ext rfl rfl) ?_
          refine WL.ex rfl rfl rfl (Ex.ext rfl rfl) ?_
          refine WL.ex rfl rfl rfl (Ex.asg rfl) ?_
          refine WL.ex rfl rfl rfl (Ex.asg rfl) ?_
          refine WL.nil ?_
          refine WX.next (?_)
          refine WC.seq ?_
          refine WC.region ?_
          refine WL.ex rfl rfl rfl (Ex.mv rfl) ?_
          refine WL.ex rfl rfl rfl (Ex.mv rfl) ?_
          refine WL.ac rfl rfl rfl (Ac.bs M96 (parts := [(0, .tmp 108)]) (l := u64V [D]) rfl rfl (LitS.one el67 rfl)) ?_; rintro v104 w104 ⟨gp, rfl, hg104, K104, M104⟩
          refine WL.ac rfl rfl rfl (Ac.call rfl Tryd.func33 nm33 rfl (needs_far w104 (some ⟨gp, 0, none⟩) 1 d D hd32 (M104.rdw (i := 0) rfl) (by omega) (by omega))) ?_; rintro v105 w105 ⟨nc, rfl, K105⟩
          have M105 := M104.step K105
          refine WL.ex rfl rfl rfl (Ex.mv rfl) ?_
          refine WL.ex rfl rfl rfl (Ex.ext rfl rfl) ?_
          refine WL.ex rfl rfl rfl (Ex.ext rfl rfl) ?_
          refine WL.ex rfl rfl rfl (Ex.asg rfl) ?_
          refine WL.ex rfl rfl rfl (Ex.asg rfl) ?_
          refine WL.nil ?_
          refine WX.next (?_)
          refine WC.seq ?_
          refine WC.region ?_
          refine WL.ex rfl rfl rfl (Ex.mv rfl) ?_
          refine WL.ex rfl rfl rfl (Ex.eqIt rfl rfl rfl) ?_
          refine WL.ex rfl rfl rfl (Ex.mv rfl) ?_
          refine WL.yes rfl rfl rfl rfl ?_
          refine WL.ex rfl rfl rfl (Ex.mv rfl) ?_
          refine WL.yes rfl rfl rfl rfl ?_
          refine WL.ex rfl rfl rfl (Ex.eqIt rfl rfl rfl) ?_
          refine WL.ex rfl rfl rfl (Ex.pickT rfl rfl) ?_
          refine WL.ex rfl rfl rfl (Ex.mv rfl) ?_
          refine WL.yes rfl rfl rfl rfl ?_
          refine WL.ex rfl rfl rfl (Ex.mv rfl) ?_
          refine WL.yes rfl rfl rfl rfl ?_
          refine WL.ex rfl rfl rfl (Ex.eqIt rfl rfl rfl) ?_
          refine WL.ex rfl rfl rfl (Ex.pickT rfl rfl) ?_
          refine WL.ex rfl rfl rfl (Ex.asg rfl) ?_
          refine WL.nil ?_
          refine WX.next (?_)
          refine WC.ret ?_
          refine WX.ret_then (?_)
          refine WX.ret1 rfl rfl ?_
          exact ⟨rfl, M105.keep⟩
        · have hy0 : 0 < ys.length := by omega
          refine WC.skip ?_
          refine WX.next (?_)
          refine WC.seq ?_
          refine WC.region ?_
          refine WL.ex rfl rfl rfl (Ex.mv rfl) ?_
          refine WL.ex rfl rfl rfl (Ex.mv rfl) ?_
          refine WL.ac rfl rfl rfl (Ac.call rfl Tryd.func33 nm33 rfl (needs_in w72 Ay cy d (ys) hd32 (by omega) hyb (M72.rdr (i := 1) rfl) (by omega))) ?_; rintro v124 w124 ⟨zc, hzc, rfl, K124⟩
          have M124 := M72.step K124
          refine WL.ex rfl rfl rfl (Ex.mv rfl) ?_
          refine WL.ex rfl rfl rfl (Ex.ext rfl rfl) ?_
          refine WL.ex rfl rfl rfl (Ex.ext rfl rfl) ?_
          refine WL.ex rfl rfl rfl (Ex.asg rfl) ?_
          refine WL.ex rfl rfl rfl (Ex.asg rfl) ?_
          refine WL.nil ?_
          refine WX.next (?_)
          refine WC.seq ?_
          refine WC.region ?_
          refine WL.ex rfl rfl rfl (Ex.mv rfl) ?_
          refine WL.ex rfl rfl rfl (Ex.mv rfl) ?_
          refine WL.ex rfl rfl rfl (Ex.mv rfl) ?_
          refine WL.ex rfl rfl rfl (Ex.mv rfl) ?_
          refine WL.ex rfl rfl rfl (Ex.rem rfl rfl (by omega) (c := ((y : Nat) : Int)) (by rw [hy]; exact tmodT _ _)) ?_
          refine WL.ac rfl rfl rfl (Ac.bs M124 (parts := [(0, .tmp 134)]) (l := u64V [y]) rfl rfl (LitS.one el67 rfl)) ?_; rintro v135 w135 ⟨gq, rfl, hg135, K135, M135⟩
          refine WL.ac rfl rfl rfl (Ac.app M135 el67 rfl rfl (i := 2) rfl (by simp) (M135.rdw (i := 0) rfl) (u64V_one _) (by omega) (by unfold maxLen; omega)) ?_; rintro v136 w136 ⟨K136, M136⟩
          try dsimp only [List.set] at M136
          rw [← u64V_append, show ys.length + 1 = (ys ++ [y]).length by simp] at M136
          obtain ⟨Az, cz, hzv⟩ := own_slice (M136.get (i := 2) rfl)
          rw [hzv] at M136 ⊢
          refine WL.ac rfl rfl rfl (Ac.call rfl Tryd.func33 nm33 rfl (needs_in w136 Az cz d (ys ++ [y]) hd32 (by simp) hyb2 (M136.rdr (i := 2) rfl) (by simp; omega))) ?_; rintro v137 w137 ⟨ze, hze, rfl, K137⟩
          have M137 := M136.step K137
          have hmo2 : cnt d ze ≤ cnt d zc + (d - 1) := cnt_more d (x := y) (si_pw hzc.si) (si_pw hze.si) (fun v => by rw [hze.mem v, hzc.mem v, List.mem_append, List.mem_singleton]) (List.length_pos_iff.1 hzc.pos) (fun v hv => hyb2 v ((hze.mem v).1 hv))
          have hb1 : cnt d zc ≤ 32 * 50 := Nat.le_trans (cnt_le d zc) (Nat.mul_le_mul hd32 (by have := hzc.le; omega))
          refine WL.ex rfl rfl rfl (Ex.mv rfl) ?_
          refine WL.ex rfl rfl rfl (Ex.ext rfl rfl) ?_
          refine WL.ex rfl rfl rfl (Ex.ext rfl rfl) ?_
          refine WL.ex rfl rfl rfl (Ex.asg rfl) ?_
          refine WL.ex rfl rfl rfl (Ex.asg rfl) ?_
          refine WL.nil ?_
          refine WX.next (?_)
          refine WC.seq ?_
          refine WC.region ?_
          refine WL.ex rfl rfl rfl (Ex.mv rfl) ?_
          refine WL.ex rfl rfl rfl (Ex.eqIt rfl rfl rfl) ?_
          refine WL.ex rfl rfl rfl (Ex.mv rfl) ?_
          refine WL.yes rfl rfl rfl rfl ?_
          refine WL.ex rfl rfl rfl (Ex.mv rfl) ?_
          refine WL.yes rfl rfl rfl rfl ?_
          refine WL.ex rfl rfl rfl (Ex.eqIt rfl rfl rfl) ?_
          refine WL.ex rfl rfl rfl (Ex.pickT rfl rfl) ?_
          refine WL.ex rfl rfl rfl (Ex.mv rfl) ?_
          refine WL.yes rfl rfl rfl rfl ?_
          refine WL.ex rfl rfl rfl (Ex.mv rfl) ?_
          refine WL.yes rfl rfl rfl rfl ?_
          refine WL.ex rfl rfl rfl (Ex.mv rfl) ?_
          refine WL.yes rfl rfl rfl rfl ?_
          refine WL.ex rfl rfl rfl (Ex.mv rfl) ?_
          refine WL.yes rfl rfl rfl rfl ?_
          refine WL.ex rfl rfl rfl (Ex.sub rfl rfl (i64w _ (by omega) (by omega))) ?_
          refine WL.yes rfl rfl rfl rfl ?_
          refine WL.ex rfl rfl rfl (Ex.max2 rfl rfl (c := ((d - 1 : Nat) : Int)) (by split <;> omega)) ?_
          refine WL.yes rfl rfl rfl rfl ?_
          refine WL.ex rfl rfl rfl (Ex.add rfl rfl (c := ((cnt d zc + (d - 1) : Nat) : Int)) (wrapN (by omega) (by omega))) ?_
          refine WL.yes rfl rfl rfl rfl ?_
          refine WL.ex rfl rfl rfl (Ex.leq rfl rfl) ?_
          rw [decide_eq_true (by omega)]
          refine WL.ex rfl rfl rfl (Ex.pickT rfl rfl) ?_
          refine WL.ex rfl rfl rfl (Ex.mv rfl) ?_
          refine WL.yes rfl rfl rfl rfl ?_
          refine WL.ex rfl rfl rfl (Ex.mv rfl) ?_
          refine WL.yes rfl rfl rfl rfl ?_
          refine WL.ex rfl rfl rfl (Ex.geq rfl rfl) ?_
          rw [decide_eq_true (by omega)]
          refine WL.ex rfl rfl rfl (Ex.pickT rfl rfl) ?_
          refine WL.ex rfl rfl rfl (Ex.asg rfl) ?_
          refine WL.nil ?_
          refine WX.next (?_)
          refine WC.ret ?_
          refine WX.ret1 rfl rfl ?_
          exact ⟨rfl, M137.keep⟩

end Go.Proofs.YtchmjpdkonfifaaDoor
