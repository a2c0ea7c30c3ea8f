/- Walks, written by gen.py off the translation's own print: each says what the Go function comes to. -/
import Derived.Test.YtfgikoilgmddhaaDoorVe
set_option linter.unusedVariables false
set_option linter.unusedSimpArgs false
namespace Go.Proofs.YtfgikoilgmddhaaDoor
open Go.Sx Go.RowKit
attribute [local irreducible] Ac Ex WL WC WX WP Gives sha

abbrev prfC (l : List (List UInt8)) : List Value := l.flatMap bytesV
abbrev PrfOk (l : List (List UInt8)) : Prop := ArrOk 32 (fun a => H32 a) l
theorem prf_len {l : List (List UInt8)} (h : PrfOk l) : (prfC l).length = 1024 := arr_len (fun h => h32_len h) h rfl
theorem prf_one {l : List (List UInt8)} : ∀ u ∈ prfC l, u.oneCell' = true := flat_one' fun _ => (bytesV_one _)
abbrev prf0 : List (List UInt8) := List.replicate 32 (List.replicate 32 0)
theorem prf0_ok : PrfOk prf0 := ⟨by simp, fun a ha => by rw [List.eq_of_mem_replicate ha]; exact h32_0⟩
theorem prfC_inj {a b : List (List UInt8)} (ha : PrfOk a) (hb : PrfOk b) (h : prfC a = prfC b) : a = b := flat_inj (ok := fun a => H32 a) (fun _ _ e => (fun e => bytesV_inj e) e) (fun h => h32_len h) (by rw [ha.len, hb.len]) ha.mem hb.mem h
abbrev prfK : List CK := rep 32 (rep 32 [.int .u8])
theorem oks_prf {w : World} {l : List (List UInt8)} (h : PrfOk l) : CK.oks w prfK (prfC l) := oks_arr (fun h => oks_h32 h) h
theorem prf_view {w : World} : ∀ vs, CK.oks w prfK vs → ∃ a, vs = prfC a ∧ PrfOk a := arr_view h32_view 32
set_option maxRecDepth 100000 in
theorem eqPrf (w : World) {a b : List (List UInt8)} (ha : PrfOk a) (hb : PrfOk b) : EqT Tryd.prog 38 (prfC a) (prfC b) (decide (a = b)) :=
  EqT.to (EqT_of (w := w) (n := 8) (ks := prfK) (by kernel_rfl) rfl (by kernel_rfl) (by decide) (by kernel_rfl) (by kernel_rfl) (by kernel_rfl) (oks_prf ha) (oks_prf hb)) ⟨(fun e => prfC_inj ha hb e), fun e => by rw [e]⟩

/-- The proof of place i, in a tree cut to n leaves. -/
def pF (ls : Hs) (n i k : Nat) : List UInt8 := nd dNode e0 (ls.take n) k ((i / 2 ^ k) ^^^ 1)
def mkP (d : Nat) (ls : Hs) (n i : Nat) : Hs := fillTo 32 d (pF ls n i) (List.replicate 32 0)
def mkE (ls : Hs) (n i : Nat) : Int := if ls.length < n then 1 else if n ≤ i then 10 else 0
def mkQ (d : Nat) (ls : Hs) (n i : Nat) : Hs := if mkE ls n i = 0 then mkP d ls n i else List.replicate 32 (List.replicate 32 0)
theorem xor1_even {x : Nat} (h : x % 2 = 0) : x ^^^ 1 = x + 1 := by
  apply Nat.eq_of_testBit_eq
  intro j
  rw [Nat.testBit_xor]
  cases j with
  | zero => simp [Nat.testBit_zero, h]; omega
  | succ j =>
    rw [Nat.testBit_succ, Nat.testBit_succ, Nat.testBit_succ]
    rw [show (x + 1) / 2 = x / 2 by omega]
    simp
theorem xor1_odd {x : Nat} (h : x % 2 = 1) : x ^^^ 1 = x - 1 := by
  have h2 := xor1_even (x := x - 1) (by omega)
  have h3 : (x - 1) ^^^ 1 ^^^ 1 = x - 1 := by rw [Nat.xor_assoc]; simp
  rw [h2, Nat.sub_add_cancel (by omega)] at h3
  exact h3
theorem pF32 {ls : Hs} (h : ∀ a ∈ ls, H32 a) (n i k : Nat) : H32 (pF ls n i k) := nd32 (take32 h n) _ _
theorem mkT_ok {d : Nat} {ls : Hs} {n i k : Nat} (hk : k < d) (hn : n ≤ ls.length) (hld : ls.length ≤ 2 ^ d) (hi : i < n) : tNode d ls n (k : Int) ((i / 2 ^ k) ^^^ 1) = (pF ls n i k, true) := by
  refine tNode_yes hn (by omega) ?_ rfl
  apply Nat.div_eq_of_lt
  have h1 : i / 2 ^ k < 2 ^ (d - k) := by
    apply (Nat.div_lt_iff_lt_mul (Nat.pow_pos (by decide))).2
    rw [← Nat.pow_add, Nat.sub_add_cancel (by omega)]
    omega
  have h2 : 2 ^ (d - k) = 2 * 2 ^ (d - k - 1) := by rw [← Nat.pow_succ']; congr 1; omega
  rw [h2] at h1 ⊢
  generalize i / 2 ^ k = x at h1 ⊢
  generalize 2 ^ (d - k - 1) = P at h1 ⊢
  rcases Nat.mod_two_eq_zero_or_one x with h | h
  · rw [xor1_even h]; omega
  · rw [xor1_odd h]; omega

/- sponsion/sponsionlaw11.made -/
theorem made_ok (w : World) (d : Nat) (A : Option Addr) (c : Nat) (ls : Hs) (hd : d ≤ 32) (hr : Rd w A (fl ls)) (hls32 : ∀ a ∈ ls, H32 a) (hn : ls.length ≤ 2 ^ d) (hb : ls.length ≤ 1000000) (hT : Tabs w) :
    Gives Tryd.prog 20 #[.int .i64 (d : Int), .slice A ls.length c] w fun u w1 => ∃ g gl ge vs, u = .pointer (some ⟨g, 0, none⟩) ∧ New w w1 (newR g gl ge d vs (lvOf dNode e0 d ls)) := by
  have M0 := Mem.start w nof
  refine Gives.enter (n := 21) Tryd.func20 rfl Tryd.ntmps20 rfl (env := [(0, .int .i64 (d : Int)), (1, .slice A ls.length c)]) rfl ?_
  refine WC.seq ?_
  refine WC.region ?_
  refine WL.ex rfl rfl rfl (Ex.asg rfl) ?_
  refine WL.nil ?_
  refine WX.next (?_)
  refine WC.seq ?_
  refine WC.region ?_
  refine WL.ex rfl rfl rfl (Ex.mv rfl) ?_
  refine WL.ac rfl rfl rfl (Ac.call rfl Tryd.func12 nm12 rfl (tNew_ok w d hd (hT.keep M0.keep))) ?_; rintro v3 w3 ⟨g, gl, ge, rfl, N3⟩
  have M3 := (M0.new N3).openS
  refine WL.ex rfl rfl rfl (Ex.asg rfl) ?_
  refine WL.nil ?_
  refine WX.next (?_)
  refine WC.seq ?_
  refine WC.seq ?_
  refine WC.region ?_
  refine WL.ex rfl rfl rfl (Ex.mv rfl) ?_
  refine WL.ex rfl rfl rfl (Ex.len Tryd.underlying22 rfl) ?_
  refine WL.ex rfl rfl rfl (Ex.mv rfl) ?_
  refine WL.nil ?_
  refine WX.next (?_)
  refine WC.block ?_
  refine WC.loop (σ := Nat × List Value) (fun s => [(5, .pointer (some ⟨g, 0, none⟩)), (10, .slice A ls.length c), (11, .int .i64 (ls.length : Int)), (12, .int .i64 (s.1 : Int))]) (fun s wr => s.1 ≤ ls.length ∧ Mem w wr nof [blk ge (fl (emps dNode e0 (d + 1))) 28, treeR g gl ge d s.2 (lvOf dNode e0 d (ls.take s.1))]) (fun s => ls.length - s.1) (((0, nilS (d + 1)) : Nat × List Value)) ?_ (.cons rfl (.cons rfl (.cons rfl (.cons rfl (.nil))))) ?_
  · exact ⟨by simp, M3⟩
  rintro ⟨i, va⟩ w8 ⟨hi, M8⟩
  dsimp only at hi M8
  refine WC.sub (env' := [(5, .pointer (some ⟨g, 0, none⟩)), (10, .slice A ls.length c), (11, .int .i64 (ls.length : Int)), (12, .int .i64 (i : Int))]) (.cons rfl (.cons rfl (.cons rfl (.cons rfl (.nil))))) ?_
  refine WC.seq ?_
  refine WC.region ?_
  refine WL.ex rfl rfl rfl (Ex.lss rfl rfl) ?_
  refine WL.nil ?_
  refine WX.next (?_)
  refine WC.seq ?_
  refine WC.cond_dec rfl (fun hc13 => ?_) (fun hc13 => ?_)
  · obtain ⟨p, hpi⟩ : ∃ p, ls[i]? = some p := ⟨_, List.getElem?_eq_getElem (by omega)⟩
    have hpm := List.mem_of_getElem? hpi
    have hp32 := hls32 p hpm
    have htkp := take_snoc hpi
    obtain ⟨bp, op, hpA, _⟩ := hr.plain (by rw [fl_len hls32]; omega)
    subst hpA
    have hti : (ls.take i).length < 2 ^ d := by rw [List.length_take]; omega
    refine WC.skip ?_
    refine WX.next (?_)
    refine WC.seq ?_
    refine WC.block ?_
    refine WC.seq ?_
    refine WC.region ?_
    refine WL.ex rfl rfl rfl (Ex.ia Tryd.underlying22 sz28 rfl rfl ⟨by omega, by omega⟩) ?_
    refine WL.ex rfl rfl rfl (Ex.loadA ty28 rfl (l := bytesV p) (by simpa using hp32) (fl_at (hr.keep0 M8.keep) hls32 hpi (by simp))) ?_
    refine WL.ac rfl rfl rfl (Ac.alloc M8 (l := bytesV (List.replicate 32 0)) (by kernel_rfl)) ?_; rintro v12 w12 ⟨gp, rfl, hg12, K12, M12⟩
    refine WL.ac0 rfl rfl (Ac.stA M12 ty28 rfl rfl rfl (h32_len (by first | assumption | exact h32_0)) (bytesV_one _) (i := 0) rfl (by first | (rw [h32_len (by first | assumption | exact h32_0), h32_len (by first | assumption | exact h32_0)]; decide) | (rw [h32_len (by first | assumption | exact h32_0)]; decide) | rw [h32_len (by first | assumption | exact h32_0)])) ?_; rintro v13 w13 ⟨K13, M13⟩
    try dsimp only [List.set] at M13
    rw [splice_all _ _ (by first | rw [h32_len (by first | assumption | exact h32_0), h32_len (by first | assumption | exact h32_0)] | rw [h32_len (by first | assumption | exact h32_0)])] at M13
    refine WL.nil ?_
    refine WX.next (?_)
    refine WC.region ?_
    refine WL.ex rfl rfl rfl (Ex.mv rfl) ?_
    refine WL.ex rfl rfl rfl (Ex.loadA ty28 rfl (h32_len (by first | assumption | exact h32_0)) (M13.rdw (i := 0) rfl)) ?_
    refine WL.ac rfl rfl rfl (Ac.call rfl Tryd.func13 nm13 rfl (tAppend_ok w13 g gl ge d va (ls.take i) p (M13.get (i := 2) rfl) (take32 hls32 i) hp32 hd (hT.keep M13.keep) (M13.tabF hT 2 rfl))) ?_; rintro v16 w16 ⟨va1, rfl, T16⟩
    rw [tApp_c hti, ← htkp] at T16
    rw [tApp_a hti, tApp_b hti]
    have M16 := M13.turned (i := 2) rfl T16
    try dsimp only [List.set] at M16
    refine WL.nil ?_
    refine WX.normal_block (WX.next (?_))
    refine WC.region ?_
    refine WL.ex rfl rfl rfl (Ex.add rfl rfl (i64w _ (by omega) (by omega))) ?_
    refine WL.ex rfl rfl rfl (Ex.mv rfl) ?_
    refine WL.nil ?_
    refine WX.again (((i + 1, va1) : Nat × List Value)) ?_ ?_ (.cons rfl (.cons rfl (.cons rfl (.cons rfl (.nil)))))
    · dsimp only; omega
    · exact ⟨by dsimp only; omega, (Mem.sub M16 (.cons _ (.refl _)))⟩
  · obtain rfl : i = ls.length := by omega
    rw [List.take_length] at M8
    refine WC.exit ?_
    refine WX.exit_then (WX.exit_then (WX.exit_block (WX.next (?_))))
    refine WC.seq ?_
    refine WC.region ?_
    refine WL.ex rfl rfl rfl (Ex.mv rfl) ?_
    refine WL.ex rfl rfl rfl (Ex.asg rfl) ?_
    refine WL.nil ?_
    refine WX.next (?_)
    refine WC.ret ?_
    refine WX.ret1 rfl rfl ?_
    exact ⟨g, gl, ge, _, rfl, (Mem.closeS M8).toNew⟩

/- sponsion/sponsionlaw11.fit -/
theorem fit_ok (w : World) (x : Nat) (A : Option Addr) (c : Nat) (ls : Hs) (hx : x < 256) (hc : ls.length ≤ c) (hcm : c ≤ maxLen) :
    Gives Tryd.prog 18 #[.int .u8 (x : Int), .slice A ls.length c] w fun u w1 => u = .tuple #[.int .i64 ((x % 33 : Nat) : Int), .slice A (min (min ls.length 30) (2 ^ (x % 33)) : Nat) c] ∧ Keep nof w w1 := by
  have M0 := Mem.start w nof
  obtain ⟨d, hd⟩ : ∃ d, d = x % 33 := ⟨_, rfl⟩
  have hd32 : d ≤ 32 := by omega
  unfold maxLen at hcm
  obtain ⟨m, hm⟩ : ∃ m, m = min ls.length 30 := ⟨_, rfl⟩
  obtain ⟨q, hq⟩ : ∃ q, q = min m (2 ^ d) := ⟨_, rfl⟩
  have hp2 := pow32 hd32
  refine Gives.enter (n := 22) Tryd.func18 rfl Tryd.ntmps18 rfl (env := [(0, .int .u8 (x : Int)), (1, .slice A ls.length c)]) rfl ?_
  refine WC.seq ?_
  refine WC.region ?_
  refine WL.ex rfl rfl rfl (Ex.asg rfl) ?_
  refine WL.ex rfl rfl rfl (Ex.asg rfl) ?_
  refine WL.nil ?_
  refine WX.next (?_)
  refine WC.seq ?_
  refine WC.region ?_
  refine WL.ex rfl rfl rfl (Ex.mv rfl) ?_
  refine WL.ex rfl rfl rfl (Ex.rem rfl rfl (by decide) (c := ((d : Nat) : Int)) (by rw [hd]; exact tmodT _ 33)) ?_
  refine WL.ex rfl rfl rfl (Ex.cvI Tryd.underlying5 Tryd.underlying3 rfl (i64w _ (by omega) (by omega))) ?_
  refine WL.ex rfl rfl rfl (Ex.asg rfl) ?_
  refine WL.nil ?_
  refine WX.next (?_)
  refine WC.seq ?_
  refine WC.region ?_
  refine WL.ex rfl rfl rfl (Ex.mv rfl) ?_
  refine WL.ex rfl rfl rfl (Ex.len Tryd.underlying22 rfl) ?_
  refine WL.ex rfl rfl rfl (Ex.min2 rfl rfl rfl) ?_
  rw [show (if (30 : Int) < (ls.length : Int) then (30 : Int) else (ls.length : Int)) = ((m : Nat) : Int) by split <;> omega]
  refine WL.ex rfl rfl rfl (Ex.cvI (c := ((m : Nat) : Int)) Tryd.underlying3 Tryd.underlying23 rfl (u64w_lt _ (by omega))) ?_
  refine WL.ex rfl rfl rfl (Ex.asg rfl) ?_
  refine WL.nil ?_
  refine WX.next (?_)
  refine WC.seq ?_
  refine WC.draw (Keep nof w.drew) [4] (.one 0 0 (.one 1 0 (.one 2 0 (.one 3 0 (.one 4 2 (.one 5 0 (.one 6 0 (.one 7 0 (.one 8 0 .nil))))))))) mixed (by kernel_rfl) (by kernel_rfl) (by kernel_rfl) (HQ.then_ HQ.body) ?_
  obtain ⟨w12, hw12⟩ : ∃ v, v = w.drew := ⟨_, rfl⟩
  have D12 : Keep nof w w12 := by rw [hw12]; exact Keep.drew _ _
  have M12 := M0.step D12
  rw [← hw12]; clear hw12
  refine WP.p rfl rfl rfl rfl (fun _ => Ex.mv rfl) ?_
  refine WP.p rfl rfl rfl rfl (fun _ => Ex.mv rfl) ?_
  refine WP.p rfl rfl rfl rfl (fun _ => Ex.mv rfl) ?_
  refine WP.p rfl rfl rfl rfl (fun _ => Ex.mv rfl) ?_
  refine WP.a rfl rfl rfl rfl (Ac.call rfl Tryd.func24 nm24 rfl (places_ok w12 d 0 hd32 (by decide))) ?_; rintro v17 w17 ⟨rfl, K17⟩; refine .inl ⟨rfl, Keep nof w17, ?_⟩
  rw [places_0]
  have M17 := M12.step K17
  refine WP.p rfl rfl rfl rfl (fun _ => Ex.min2 rfl rfl rfl) ?_
  rw [show (if ((2 ^ d : Nat) : Int) < (m : Int) then ((2 ^ d : Nat) : Int) else (m : Int)) = ((q : Nat) : Int) by split <;> omega]
  refine WP.p rfl rfl rfl rfl (fun _ => Ex.slh Tryd.underlying22 sz28 rfl rfl (Int.natCast_nonneg _) (by omega)) ?_
  rw [Int.toNat_natCast]
  refine WP.p rfl rfl rfl rfl (fun _ => Ex.asg rfl) ?_
  refine WP.p rfl rfl rfl rfl (fun _ => Ex.asg rfl) ?_
  refine WP.nil ?_
  refine WX.next (?_)
  refine WC.ret ?_
  refine WX.ret2 rfl rfl rfl ?_
  rw [← hd, ← hm, ← hq]
  exact ⟨rfl, M17.keep⟩

end Go.Proofs.YtfgikoilgmddhaaDoor
