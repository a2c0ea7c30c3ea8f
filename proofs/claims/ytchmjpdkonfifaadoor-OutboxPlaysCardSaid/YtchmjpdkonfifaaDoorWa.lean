/- Walks, written by gen.py off the translation's own print: each says what the Go function comes to. -/
import Derived.Test.YtchmjpdkonfifaaDoorVa
import Derived.Test.YtchmjpdkonfifaaDoorTg
set_option linter.unusedVariables false
set_option linter.unusedSimpArgs false
namespace Go.Proofs.YtchmjpdkonfifaaDoor
open Go.Sx Go.RowKit
attribute [local irreducible] Ac Ex WL WC WX WP Gives sha

theorem _root_.Go.Sx.Ac.appT {P : Program} {n : Nat} {env : Env} {w : World} {dst : Option Nat} {ty : TypeId} {pos : String} {aft : Array Edge} {g : Option (Nat × Bool)} {t e : TypeId} {sz bytes : Nat} (h : El P t e sz bytes) {s x : Operand} {m k c : Nat} {v : Value} {A : Option Addr} {xs news : List Value} (hr0 : (row v e sz m xs).sat w) (hs : ev env s = some v) (hx : ev env x = some (.slice A k c))
    (hl : news.length = k * sz) (hr : Rd w A news) (h1 : ∀ u ∈ news, u.oneCell' = true) (hb : (m + k) * bytes ≤ 140737488355328) (h63 : m + k ≤ maxLen) :
    Ac P n env (Oper.mk dst (.call { callee := .builtin .append, args := #[s, x], argTypes := #[t, t] }) ty pos aft g) w fun u w' => Turn w w' (row v e sz m xs) (row u e sz (m + k) (xs ++ news)) :=
  Ac.of_run fun a ha => by
    obtain ⟨v', w', h2, h3, h4, h5⟩ := run_app (c := c) h ty hr0 hl hr h1 hb h63
    exact ⟨v', w', by simp [execOp, resolve, invoke, builtin, ha.eval hs, ha.eval hx, h2], h4, h3, h5⟩
theorem _root_.Go.Sx.Mem.cutR {w0 w : World} {F : Nat → Prop} {rs : List Res} (M : Mem w0 w F rs) {i n m : Nat} {A : Option Addr} {c : Nat} {e : TypeId} {sz : Nat} {xs : List Value} (hi : rs[i]? = some (row (.slice A n c) e sz n xs)) (hm : m ≤ n) : Mem w0 w F (rs.set i (row (.slice A m c) e sz m (xs.take (m * sz)))) :=
  M.turn hi (Keep.refl _ _) (own_cut (M.get hi) hm) fun b hb => .inl (by cases A with | none => cases hb | some a => exact hb)
theorem own_cap {w : World} {A : Option Addr} {c n sz : Nat} {e : TypeId} {xs : List Value} (h : (row (.slice A n c) e sz n xs).sat w) : n ≤ c := by
  rcases h.2 with ⟨hv, hn⟩ | ⟨g, cap, cur, hv, hb, hg, hnc, _⟩
  · omega
  · simp only [Value.slice.injEq] at hv
    omega
theorem places_0 {d : Nat} : places d 0 = 2 ^ d := by
  unfold places
  rw [if_pos (by omega)]
  simp
theorem pow32 {d : Nat} (h : d ≤ 32) : 2 ^ d ≤ 4294967296 := Nat.le_trans (Nat.pow_le_pow_right (show 0 < 2 by decide) h) (by decide)

abbrev prfC (l : List (List UInt8)) : List Value := l.flatMap bytesV
abbrev PrfOk (l : List (List UInt8)) : Prop := ArrOk 32 (fun a => H32 a) l
theorem prf_len {l : List (List UInt8)} (h : PrfOk l) : (prfC l).length = 1024 := arr_len (fun h => h32_len h) h rfl
theorem prf_one {l : List (List UInt8)} : ∀ u ∈ prfC l, u.oneCell' = true := flat_one' fun _ => (bytesV_one _)
abbrev prf0 : List (List UInt8) := List.replicate 32 (List.replicate 32 0)
theorem prf0_ok : PrfOk prf0 := ⟨by simp, fun a ha => by rw [List.eq_of_mem_replicate ha]; exact h32_0⟩
theorem prfC_inj {a b : List (List UInt8)} (ha : PrfOk a) (hb : PrfOk b) (h : prfC a = prfC b) : a = b := flat_inj (ok := fun a => H32 a) (fun _ _ e => (fun e => bytesV_inj e) e) (fun h => h32_len h) (by rw [ha.len, hb.len]) ha.mem hb.mem h
abbrev prfK : List CK := rep 32 (rep 32 [.int .u8])
theorem oks_prf {w : World} {l : List (List UInt8)} (h : PrfOk l) : CK.oks w prfK (prfC l) := oks_arr (fun h => oks_h32 h) h
theorem prf_view {w : World} : ∀ vs, CK.oks w prfK vs → ∃ a, vs = prfC a ∧ PrfOk a := arr_view h32_view 32
set_option maxRecDepth 100000 in
theorem eqPrf (w : World) {a b : List (List UInt8)} (ha : PrfOk a) (hb : PrfOk b) : EqT Tryd.prog 34 (prfC a) (prfC b) (decide (a = b)) :=
  EqT.to (EqT_of (w := w) (n := 8) (ks := prfK) (by kernel_rfl) rfl (by kernel_rfl) (by decide) (by kernel_rfl) (by kernel_rfl) (by kernel_rfl) (oks_prf ha) (oks_prf hb)) ⟨(fun e => prfC_inj ha hb e), fun e => by rw [e]⟩

/-- The proof of place i, in a tree cut to n leaves. -/
def pF (ls : Hs) (n i k : Nat) : List UInt8 := nd dNode e0 (ls.take n) k ((i / 2 ^ k) ^^^ 1)
def mkP (d : Nat) (ls : Hs) (n i : Nat) : Hs := fillTo 32 d (pF ls n i) (List.replicate 32 0)
def mkE (ls : Hs) (n i : Nat) : Int := if ls.length < n then 1 else if n ≤ i then 10 else 0
def mkQ (d : Nat) (ls : Hs) (n i : Nat) : Hs := if mkE ls n i = 0 then mkP d ls n i else List.replicate 32 (List.replicate 32 0)
theorem xor1_even {x : Nat} (h : x % 2 = 0) : x ^^^ 1 = x + 1 := by
  apply Nat.eq_of_testBit_eq
  intro j
  rw [Nat.testBit_xor]
  cases j with
  | zero => simp [Nat.testBit_zero, h]; omega
  | succ j =>
    rw [Nat.testBit_succ, Nat.testBit_succ, Nat.testBit_succ]
    rw [show (x + 1) / 2 = x / 2 by omega]
    simp
theorem xor1_odd {x : Nat} (h : x % 2 = 1) : x ^^^ 1 = x - 1 := by
  have h2 := xor1_even (x := x - 1) (by omega)
  have h3 : (x - 1) ^^^ 1 ^^^ 1 = x - 1 := by rw [Nat.xor_assoc]; simp
  rw [h2, Nat.sub_add_cancel (by omega)] at h3
  exact h3
theorem pF32 {ls : Hs} (h : ∀ a ∈ ls, H32 a) (n i k : Nat) : H32 (pF ls n i k) := nd32 (take32 h n) _ _
theorem mkT_ok {d : Nat} {ls : Hs} {n i k : Nat} (hk : k < d) (hn : n ≤ ls.length) (hld : ls.length ≤ 2 ^ d) (hi : i < n) : tNode d ls n (k : Int) ((i / 2 ^ k) ^^^ 1) = (pF ls n i k, true) := by
  refine tNode_yes hn (by omega) ?_ rfl
  apply Nat.div_eq_of_lt
  have h1 : i / 2 ^ k < 2 ^ (d - k) := by
    apply (Nat.div_lt_iff_lt_mul (Nat.pow_pos (by decide))).2
    rw [← Nat.pow_add, Nat.sub_add_cancel (by omega)]
    omega
  have h2 : 2 ^ (d - k) = 2 * 2 ^ (d - k - 1) := by rw [← Nat.pow_succ']; congr 1; omega
  rw [h2] at h1 ⊢
  generalize i / 2 ^ k = x at h1 ⊢
  generalize 2 ^ (d - k - 1) = P at h1 ⊢
  rcases Nat.mod_two_eq_zero_or_one x with h | h
  · rw [xor1_even h]; omega
  · rw [xor1_odd h]; omega

theorem fillP_ok {ls : Hs} (h : ∀ a ∈ ls, H32 a) (n i k : Nat) : PrfOk (fillTo 32 k (pF ls n i) (List.replicate 32 0)) := ⟨by simp, fun a ha => by
  obtain ⟨j, _, rfl⟩ := List.mem_map.1 ha
  split
  · exact pF32 h n i j
  · exact h32_0⟩
theorem mkQ_ok {ls : Hs} (h : ∀ a ∈ ls, H32 a) (d n i : Nat) : PrfOk (mkQ d ls n i) := by
  unfold mkQ
  split
  · exact fillP_ok h n i d
  · exact prf0_ok

/- sponsion/proof.Make -/
theorem pMake_ok (w : World) (g gl ge d : Nat) (vs : List Value) (ls : Hs) (n i : Nat) (hTr : TreeS w g gl ge d vs (lvOf dNode e0 d ls)) (hE : ES w ge d) (hls : ∀ a ∈ ls, H32 a) (hld : ls.length ≤ 2 ^ d) (hn : n < 18446744073709551616) (hi : i < 18446744073709551616) (hd : d ≤ 32) (hT : Tabs w) :
    Gives Tryd.prog 41 #[.pointer (some ⟨g, 0, none⟩), .int .u64 (n : Int), .int .u64 (i : Int)] w fun u w1 => u = .tuple #[.agg (prfC (mkQ d ls n i)).toArray, .int .i64 (mkE ls n i)] ∧ Keep nof w w1 := by
  have M0 := Mem.start w nof
  have hl0 := lvOf_get (N := dNode) (e := e0) (d := d) (ls := ls) (j := 0) (by omega)
  rw [levOf_zero] at hl0
  have hp0 := prf0_ok
  refine Gives.enter (n := 45) Tryd.func41 rfl Tryd.ntmps41 rfl (env := [(0, .pointer (some ⟨g, 0, none⟩)), (1, .int .u64 (n : Int)), (2, .int .u64 (i : Int))]) rfl ?_
  refine WC.seq ?_
  refine WC.region ?_
  refine WL.ac rfl rfl rfl (Ac.alloc M0 (l := prfC prf0) (by kernel_rfl)) ?_; rintro v1 w1 ⟨go, rfl, hg1, K1, M1⟩
  refine WL.ex rfl rfl rfl (Ex.asg rfl) ?_
  refine WL.nil ?_
  refine WX.next (?_)
  refine WC.seq ?_
  refine WC.region ?_
  refine WL.ac rfl rfl rfl (Ac.alloc M1 (l := prfC prf0) (by kernel_rfl)) ?_; rintro v3 w3 ⟨gp, rfl, hg3, K3, M3⟩
  refine WL.nil ?_
  refine WX.next (?_)
  refine WC.seq ?_
  refine WC.block ?_
  refine WC.seq ?_
  refine WC.region ?_
  refine WL.ex rfl rfl rfl (Ex.mv rfl) ?_
  refine WL.ex rfl rfl rfl (Ex.eqPn Tryd.underlying68 rfl) ?_
  refine WL.ex rfl rfl rfl (Ex.mv rfl) ?_
  refine WL.yes rfl rfl rfl rfl ?_
  refine WL.ex rfl rfl rfl (Ex.mv rfl) ?_
  refine WL.yes rfl rfl rfl rfl ?_
  refine WL.ex rfl rfl rfl (Ex.mv rfl) ?_
  refine WL.yes rfl rfl rfl rfl ?_
  refine WL.ac rfl rfl rfl (Ac.call rfl Tryd.func59 nm59 rfl (tLen_ok w3 g gl ge d vs _ ls (hTr.keep M3.keep) hl0)) ?_; rintro v9 w9 ⟨rfl, K9⟩
  have M9 := M3.step K9
  refine WL.yes rfl rfl rfl rfl ?_
  refine WL.ex rfl rfl rfl (Ex.gtr rfl rfl) ?_
  refine WL.ex rfl rfl rfl (Ex.pickF rfl rfl) ?_
  refine WL.ex rfl rfl rfl (Ex.asg rfl) ?_
  refine WL.nil ?_
  refine WX.next (?_)
  refine WC.cond_dec rfl (fun h10 => ?_) (fun h10 => ?_)
  · have hme : mkE ls n i = 1 := if_pos (by omega)
    have hmq : mkQ d ls n i = (List.replicate 32 (List.replicate 32 0)) := by rw [mkQ, hme]; rfl
    refine WC.seq ?_
    refine WC.region ?_
    refine WL.ex rfl rfl rfl (Ex.loadA ty34 rfl (prf_len (by first | assumption | exact prf0_ok)) (M9.rdw (i := 0) rfl)) ?_
    refine WL.ac0 rfl rfl (Ac.stA M9 ty34 rfl rfl rfl (prf_len (by first | assumption | exact prf0_ok)) (prf_one) (i := 1) rfl (by first | (rw [prf_len (by first | assumption | exact prf0_ok), prf_len (by first | assumption | exact prf0_ok)]; decide) | (rw [prf_len (by first | assumption | exact prf0_ok)]; decide) | rw [prf_len (by first | assumption | exact prf0_ok)])) ?_; rintro v14 w14 ⟨K14, M14⟩
    try dsimp only [List.set] at M14
    rw [splice_all _ _ (by first | rw [prf_len (by first | assumption | exact prf0_ok), prf_len (by first | assumption | exact prf0_ok)] | rw [prf_len (by first | assumption | exact prf0_ok)])] at M14
    refine WL.ex rfl rfl rfl (Ex.asg rfl) ?_
    refine WL.nil ?_
    refine WX.next (?_)
    refine WC.ret ?_
    refine WX.ret_block (WX.ret_then (?_))
    refine WX.retn rfl (.cell rfl (run_loadVarA ty34 (prf_len (by first | assumption | exact prf0_ok)) (M14.rdw (i := 1) rfl)) (.tmp rfl .nil)) rfl ?_
    rw [hme, hmq]
    exact ⟨rfl, M14.keep⟩
  · skip
    refine WC.seq ?_
    refine WC.region ?_
    refine WL.ex rfl rfl rfl (Ex.mv rfl) ?_
    refine WL.ex rfl rfl rfl (Ex.mv rfl) ?_
    refine WL.ex rfl rfl rfl (Ex.geq rfl rfl) ?_
    refine WL.ex rfl rfl rfl (Ex.asg rfl) ?_
    refine WL.nil ?_
    refine WX.next (?_)
    refine WC.cond_dec rfl (fun h20 => ?_) (fun h20 => ?_)
    · have hme : mkE ls n i = 10 := by rw [mkE, if_neg (by omega), if_pos (by omega)]
      have hmq : mkQ d ls n i = (List.replicate 32 (List.replicate 32 0)) := by rw [mkQ, hme]; rfl
      refine WC.seq ?_
      refine WC.region ?_
      refine WL.ex rfl rfl rfl (Ex.loadA ty34 rfl (prf_len (by first | assumption | exact prf0_ok)) (M9.rdw (i := 0) rfl)) ?_
      refine WL.ac0 rfl rfl (Ac.stA M9 ty34 rfl rfl rfl (prf_len (by first | assumption | exact prf0_ok)) (prf_one) (i := 1) rfl (by first | (rw [prf_len (by first | assumption | exact prf0_ok), prf_len (by first | assumption | exact prf0_ok)]; decide) | (rw [prf_len (by first | assumption | exact prf0_ok)]; decide) | rw [prf_len (by first | assumption | exact prf0_ok)])) ?_; rintro v21 w21 ⟨K21, M21⟩
      try dsimp only [List.set] at M21
      rw [splice_all _ _ (by first | rw [prf_len (by first | assumption | exact prf0_ok), prf_len (by first | assumption | exact prf0_ok)] | rw [prf_len (by first | assumption | exact prf0_ok)])] at M21
      refine WL.ex rfl rfl rfl (Ex.asg rfl) ?_
      refine WL.nil ?_
      refine WX.next (?_)
      refine WC.ret ?_
      refine WX.ret_block (WX.ret_then (?_))
      refine WX.retn rfl (.cell rfl (run_loadVarA ty34 (prf_len (by first | assumption | exact prf0_ok)) (M21.rdw (i := 1) rfl)) (.tmp rfl .nil)) rfl ?_
      rw [hme, hmq]
      exact ⟨rfl, M21.keep⟩
    · have hme : mkE ls n i = 0 := by rw [mkE, if_neg (by omega), if_neg (by omega)]
      have hmq : mkQ d ls n i = fillTo 32 d (pF ls n i) (List.replicate 32 0) := by rw [mkQ, hme]; rfl
      have hqo := fillP_ok hls n i d
      refine WC.skip ?_
      refine WX.normal_block (WX.next (?_))
      refine WC.seq ?_
      refine WC.seq ?_
      refine WC.region ?_
      refine WL.ex rfl rfl rfl (Ex.mv rfl) ?_
      refine WL.ac rfl rfl rfl (Ac.call rfl Tryd.func64 nm64 rfl (tDepth_ok w9 g gl ge d vs _ (hTr.keep M9.keep) hd)) ?_; rintro v24 w24 ⟨rfl, K24⟩
      have M24 := M9.step K24
      refine WL.ex rfl rfl rfl (Ex.mv rfl) ?_
      refine WL.nil ?_
      refine WX.next (?_)
      refine WC.block ?_
      refine WC.loop (σ := Nat) (fun k => [(0, .pointer (some ⟨g, 0, none⟩)), (1, .int .u64 (n : Int)), (2, .int .u64 (i : Int)), (6, .pointer (some ⟨go, 0, none⟩)), (8, .pointer (some ⟨gp, 0, none⟩)), (26, .int .i64 (d : Int)), (27, .int .i64 (k : Int))]) (fun k wr => k ≤ d ∧ Mem w wr nof [blk gp (prfC (fillTo 32 k (pF ls n i) (List.replicate 32 0))) 34, blk go (prfC ((List.replicate 32 (List.replicate 32 0)))) 34]) (fun k => d - k) (0) ?_ (.cons rfl (.cons rfl (.cons rfl (.cons rfl (.cons rfl (.cons rfl (.cons rfl (.nil)))))))) ?_
      · refine ⟨by omega, ?_⟩
        rw [fillTo_zero]
        exact M24
      rintro k w26 ⟨hk, M26⟩
      refine WC.seq ?_
      refine WC.region ?_
      refine WL.ex rfl rfl rfl (Ex.lss rfl rfl) ?_
      refine WL.nil ?_
      refine WX.next (?_)
      refine WC.seq ?_
      refine WC.cond_dec rfl (fun hc28 => ?_) (fun hc28 => ?_)
      · have hf32 := pF32 hls n i k
        have hpo := fillP_ok hls n i k
        have hmt := mkT_ok (d := d) (ls := ls) (n := n) (i := i) (k := k) (by omega) (by omega) hld (by omega)
        have hdv := Nat.div_le_self i (2 ^ k)
        have hxl : (i / 2 ^ k) ^^^ 1 < 18446744073709551616 := Nat.xor_lt_two_pow (n := 64) (by omega) (by decide)
        refine WC.skip ?_
        refine WX.next (?_)
        refine WC.seq ?_
        refine WC.block ?_
        refine WC.seq ?_
        refine WC.region ?_
        refine WL.ex rfl rfl rfl (Ex.mv rfl) ?_
        refine WL.ex rfl rfl rfl (Ex.asg rfl) ?_
        refine WL.nil ?_
        refine WX.next (?_)
        refine WC.region ?_
        refine WL.ex rfl rfl rfl (Ex.mv rfl) ?_
        refine WL.ex rfl rfl rfl (Ex.mv rfl) ?_
        refine WL.ex rfl rfl rfl (Ex.mv rfl) ?_
        refine WL.ex rfl rfl rfl (Ex.mv rfl) ?_
        refine WL.ex rfl rfl rfl (Ex.mv rfl) ?_
        refine WL.ex rfl rfl rfl (Ex.mv rfl) ?_
        refine WL.ex rfl rfl rfl (Ex.shr rfl rfl (m := k) rfl (c := ((i / 2 ^ k : Nat) : Int)) (shrN _ _ _ (by simp [IntKind.bits]; omega))) ?_
        refine WL.ex rfl rfl rfl (Ex.bxor rfl rfl (c := (((i / 2 ^ k) ^^^ 1 : Nat) : Int)) (u64_xor_nat (i / 2 ^ k) 1 (by omega) (by decide))) ?_
        refine WL.ac rfl rfl rfl (Ac.call rfl Tryd.func40 nm40 rfl (tNode_ok w26 g gl ge d vs ls n (k : Int) ((i / 2 ^ k) ^^^ 1) (hTr.keep M26.keep) (hE.keep M26.keep) hls hn (by omega) hxl hd (hT.keep M26.keep))) ?_; rintro v38 w38 ⟨rfl, K38⟩
        rw [hmt]
        have M38 := M26.step K38
        refine WL.ex rfl rfl rfl (Ex.mv rfl) ?_
        refine WL.ex rfl rfl rfl (Ex.ext rfl rfl) ?_
        refine WL.ex rfl rfl rfl (Ex.ext rfl rfl) ?_
        refine WL.ex rfl rfl rfl (Ex.iaA Tryd.underlying34 sz31 rfl rfl ⟨by omega, by omega⟩) ?_
        refine WL.ac0 rfl rfl (Ac.stA M38 ty31 rfl rfl (vs := bytesV (pF ls n i k)) rfl (h32_len hf32) (bytesV_one _) (i := 0) rfl (by rw [h32_len hf32, prf_len hpo]; simp; omega)) ?_; rintro v43 w43 ⟨K43, M43⟩
        try dsimp only [List.set] at M43
        rw [prfC, flat_set (fun a ha => h32_len (hpo.mem a ha)) (h32_len hf32) (i := k) (by rw [hpo.len]; omega) (by simp)] at M43
        rw [show (fillTo 32 k (pF ls n i) (List.replicate 32 0)).set k (pF ls n i k) = fillTo 32 (k + 1) (pF ls n i) (List.replicate 32 0) from fillTo_set 32 k (pF ls n i) _] at M43
        refine WL.nil ?_
        refine WX.normal_block (WX.next (?_))
        refine WC.region ?_
        refine WL.ex rfl rfl rfl (Ex.add rfl rfl (i64w _ (by omega) (by omega))) ?_
        refine WL.ex rfl rfl rfl (Ex.mv rfl) ?_
        refine WL.nil ?_
        refine WX.again (k + 1) ?_ ?_ (.cons rfl (.cons rfl (.cons rfl (.cons rfl (.cons rfl (.cons rfl (.cons rfl (.nil))))))))
        · (try dsimp only); omega
        · exact ⟨by omega, M43⟩
      · obtain rfl : d = k := by omega
        refine WC.exit ?_
        refine WX.exit_then (WX.exit_then (WX.exit_block (WX.next (?_))))
        refine WC.seq ?_
        refine WC.region ?_
        refine WL.ex rfl rfl rfl (Ex.loadA ty34 rfl (prf_len (by first | assumption | exact prf0_ok)) (M26.rdw (i := 0) rfl)) ?_
        refine WL.ac0 rfl rfl (Ac.stA M26 ty34 rfl rfl rfl (prf_len (by first | assumption | exact prf0_ok)) (prf_one) (i := 1) rfl (by first | (rw [prf_len (by first | assumption | exact prf0_ok), prf_len (by first | assumption | exact prf0_ok)]; decide) | (rw [prf_len (by first | assumption | exact prf0_ok)]; decide) | rw [prf_len (by first | assumption | exact prf0_ok)])) ?_; rintro v47 w47 ⟨K47, M47⟩
        try dsimp only [List.set] at M47
        rw [splice_all _ _ (by first | rw [prf_len (by first | assumption | exact prf0_ok), prf_len (by first | assumption | exact prf0_ok)] | rw [prf_len (by first | assumption | exact prf0_ok)])] at M47
        refine WL.ex rfl rfl rfl (Ex.asg rfl) ?_
        refine WL.nil ?_
        refine WX.next (?_)
        refine WC.ret ?_
        refine WX.retn rfl (.cell rfl (run_loadVarA ty34 (prf_len (by first | assumption | exact prf0_ok)) (M47.rdw (i := 1) rfl)) (.tmp rfl .nil)) rfl ?_
        rw [hme, hmq]
        exact ⟨rfl, M47.keep⟩

/- sponsion/proof.Make#nil -/
theorem pMakeNil_ok (w : World) (n i : Nat) :
    Gives Tryd.prog 41 #[.pointer none, .int .u64 (n : Int), .int .u64 (i : Int)] w fun u w1 => u = .tuple #[.agg (prfC (List.replicate 32 (List.replicate 32 0))).toArray, .int .i64 1] ∧ Keep nof w w1 := by
  have M0 := Mem.start w nof
  have hp0 := prf0_ok
  refine Gives.enter (n := 45) Tryd.func41 rfl Tryd.ntmps41 rfl (env := [(0, .pointer none), (1, .int .u64 (n : Int)), (2, .int .u64 (i : Int))]) rfl ?_
  refine WC.seq ?_
  refine WC.region ?_
  refine WL.ac rfl rfl rfl (Ac.alloc M0 (l := prfC prf0) (by kernel_rfl)) ?_; rintro v1 w1 ⟨go, rfl, hg1, K1, M1⟩
  refine WL.ex rfl rfl rfl (Ex.asg rfl) ?_
  refine WL.nil ?_
  refine WX.next (?_)
  refine WC.seq ?_
  refine WC.region ?_
  refine WL.ac rfl rfl rfl (Ac.alloc M1 (l := prfC prf0) (by kernel_rfl)) ?_; rintro v3 w3 ⟨gp, rfl, hg3, K3, M3⟩
  refine WL.nil ?_
  refine WX.next (?_)
  refine WC.seq ?_
  refine WC.block ?_
  refine WC.seq ?_
  refine WC.region ?_
  refine WL.ex rfl rfl rfl (Ex.mv rfl) ?_
  refine WL.ex rfl rfl rfl (Ex.eqPn Tryd.underlying68 rfl) ?_
  refine WL.ex rfl rfl rfl (Ex.mv rfl) ?_
  refine WL.no rfl rfl rfl rfl rfl rfl ?_
  refine WL.no rfl rfl rfl rfl rfl rfl ?_
  refine WL.no rfl rfl rfl rfl rfl rfl ?_
  refine WL.no rfl rfl rfl rfl rfl rfl ?_
  refine WL.ex rfl rfl rfl (Ex.pickT rfl rfl) ?_
  refine WL.ex rfl rfl rfl (Ex.asg rfl) ?_
  refine WL.nil ?_
  refine WX.next (?_)
  refine WC.yes rfl ?_
  refine WC.seq ?_
  refine WC.region ?_
  refine WL.ex rfl rfl rfl (Ex.loadA ty34 rfl (prf_len (by first | assumption | exact prf0_ok)) (M3.rdw (i := 0) rfl)) ?_
  refine WL.ac0 rfl rfl (Ac.stA M3 ty34 rfl rfl rfl (prf_len (by first | assumption | exact prf0_ok)) (prf_one) (i := 1) rfl (by first | (rw [prf_len (by first | assumption | exact prf0_ok), prf_len (by first | assumption | exact prf0_ok)]; decide) | (rw [prf_len (by first | assumption | exact prf0_ok)]; decide) | rw [prf_len (by first | assumption | exact prf0_ok)])) ?_; rintro v10 w10 ⟨K10, M10⟩
  try dsimp only [List.set] at M10
  rw [splice_all _ _ (by first | rw [prf_len (by first | assumption | exact prf0_ok), prf_len (by first | assumption | exact prf0_ok)] | rw [prf_len (by first | assumption | exact prf0_ok)])] at M10
  refine WL.ex rfl rfl rfl (Ex.asg rfl) ?_
  refine WL.nil ?_
  refine WX.next (?_)
  refine WC.ret ?_
  refine WX.ret_block (WX.ret_then (?_))
  refine WX.retn rfl (.cell rfl (run_loadVarA ty34 (prf_len (by first | assumption | exact prf0_ok)) (M10.rdw (i := 1) rfl)) (.tmp rfl .nil)) rfl ?_
  exact ⟨rfl, M10.keep⟩

theorem xor_lt {d i k : Nat} (hk : k < d) (hi : i < 2 ^ d) : (i / 2 ^ k) ^^^ 1 < 2 ^ (d - k) := by
  have h1 : i / 2 ^ k < 2 ^ (d - k) := by
    apply (Nat.div_lt_iff_lt_mul (Nat.pow_pos (by decide))).2
    rw [← Nat.pow_add, Nat.sub_add_cancel (by omega)]
    exact hi
  have h2 : 2 ^ (d - k) = 2 * 2 ^ (d - k - 1) := by rw [← Nat.pow_succ']; congr 1; omega
  rw [h2] at h1 ⊢
  generalize i / 2 ^ k = x at h1 ⊢
  generalize 2 ^ (d - k - 1) = P at h1 ⊢
  rcases Nat.mod_two_eq_zero_or_one x with h | h
  · rw [xor1_even h]; omega
  · rw [xor1_odd h]; omega
theorem xor_pow {d i k : Nat} (hd : d ≤ 32) (hk : k < d) (hi : i < 2 ^ d) : ((i / 2 ^ k) ^^^ 1) + 1 ≤ 4294967296 ∧ (((i / 2 ^ k) ^^^ 1) + 1) * 2 ^ k ≤ 4294967296 := by
  have h := xor_lt hk hi
  have h1 : (((i / 2 ^ k) ^^^ 1) + 1) * 2 ^ k ≤ 2 ^ (d - k) * 2 ^ k := Nat.mul_le_mul_right _ h
  rw [← Nat.pow_add, Nat.sub_add_cancel (by omega)] at h1
  have h2 := pow32 hd
  have h3 : 2 ^ (d - k) ≤ 2 ^ 32 := Nat.pow_le_pow_right (by decide) (by omega)
  exact ⟨by omega, by omega⟩

/- sponsion/sponsionref11.Make -/
theorem rMake_ok (w : World) (d : Nat) (A : Option Addr) (c : Nat) (ls ls1 : Hs) (n i : Nat) (hr : Rd w A (fl ls1)) (hls : ∀ a ∈ ls, H32 a) (hl : ls1 = ls.take n) (hlen : ls1.length ≤ 4294967296) (hd : d ≤ 32) (hi : i < 2 ^ d) (hR : TabR w) :
    Gives Tryd.prog 17 #[.int .i64 (d : Int), .slice A ls1.length c, .int .u64 (i : Int)] w fun u w1 => u = .agg (prfC (fillTo 32 d (pF ls n i) (List.replicate 32 0))).toArray ∧ Keep nof w w1 := by
  have M0 := Mem.start w nof
  have h1s : ∀ a ∈ ls1, H32 a := by rw [hl]; exact take32 hls n
  have hqo := fillP_ok hls n i d
  have hp2 := pow32 hd
  refine Gives.enter (n := 34) Tryd.func17 rfl Tryd.ntmps17 rfl (env := [(0, .int .i64 (d : Int)), (1, .slice A ls1.length c), (2, .int .u64 (i : Int))]) rfl ?_
  refine WC.seq ?_
  refine WC.region ?_
  refine WL.ac rfl rfl rfl (Ac.alloc M0 (l := prfC prf0) (by kernel_rfl)) ?_; rintro v1 w1 ⟨go, rfl, hg1, K1, M1⟩
  refine WL.nil ?_
  refine WX.next (?_)
  refine WC.seq ?_
  refine WC.region ?_
  refine WL.ac rfl rfl rfl (Ac.alloc M1 (l := prfC prf0) (by kernel_rfl)) ?_; rintro v2 w2 ⟨gp, rfl, hg2, K2, M2⟩
  refine WL.nil ?_
  refine WX.next (?_)
  refine WC.seq ?_
  refine WC.seq ?_
  refine WC.region ?_
  refine WL.ex rfl rfl rfl (Ex.mv rfl) ?_
  refine WL.ex rfl rfl rfl (Ex.mv rfl) ?_
  refine WL.nil ?_
  refine WX.next (?_)
  refine WC.block ?_
  refine WC.loop (σ := Nat × Nat) (fun s => [(1, .slice A ls1.length c), (2, .int .u64 (s.2 : Int)), (6, .pointer (some ⟨go, 0, none⟩)), (7, .pointer (some ⟨gp, 0, none⟩)), (9, .int .i64 (d : Int)), (10, .int .i64 (s.1 : Int))]) (fun s wr => s.1 ≤ d ∧ s.2 = i / 2 ^ s.1 ∧ Mem w wr nof [blk gp (prfC (fillTo 32 s.1 (pF ls n i) (List.replicate 32 0))) 34, blk go (prfC ((List.replicate 32 (List.replicate 32 0)))) 34]) (fun s => d - s.1) (((0, i) : Nat × Nat)) ?_ (.cons rfl (.cons rfl (.cons rfl (.cons rfl (.cons rfl (.cons rfl (.nil))))))) ?_
  · refine ⟨by simp, by simp, ?_⟩
    dsimp only
    rw [fillTo_zero]
    exact M2
  rintro ⟨k, j⟩ w5 ⟨hk, hj, M5⟩
  dsimp only at hk hj M5
  refine WC.sub (env' := [(1, .slice A ls1.length c), (2, .int .u64 (j : Int)), (6, .pointer (some ⟨go, 0, none⟩)), (7, .pointer (some ⟨gp, 0, none⟩)), (9, .int .i64 (d : Int)), (10, .int .i64 (k : Int))]) (.cons rfl (.cons rfl (.cons rfl (.cons rfl (.cons rfl (.cons rfl (.nil))))))) ?_
  refine WC.seq ?_
  refine WC.region ?_
  refine WL.ex rfl rfl rfl (Ex.lss rfl rfl) ?_
  refine WL.nil ?_
  refine WX.next (?_)
  refine WC.seq ?_
  refine WC.cond_dec rfl (fun hc11 => ?_) (fun hc11 => ?_)
  · have hf32 := pF32 hls n i k
    have hpo := fillP_ok hls n i k
    have hxp := xor_pow hd (by omega : k < d) hi
    have hjl := Nat.div_le_self i (2 ^ k)
    rw [← hj] at hxp hjl
    refine WC.skip ?_
    refine WX.next (?_)
    refine WC.seq ?_
    refine WC.block ?_
    refine WC.seq ?_
    refine WC.region ?_
    refine WL.ex rfl rfl rfl (Ex.mv rfl) ?_
    refine WL.ex rfl rfl rfl (Ex.asg rfl) ?_
    refine WL.nil ?_
    refine WX.next (?_)
    refine WC.seq ?_
    refine WC.seq ?_
    refine WC.region ?_
    refine WL.ex rfl rfl rfl (Ex.mv rfl) ?_
    refine WL.ex rfl rfl rfl (Ex.rem rfl rfl (by decide) (c := ((j % 2 : Nat) : Int)) (tmodT _ 2)) ?_
    refine WL.ex rfl rfl rfl (Ex.eqI rfl rfl) ?_
    refine WL.nil ?_
    refine WX.next (?_)
    refine WC.cond_dec rfl (fun h15 => ?_) (fun h15 => ?_)
    · have hx := xor1_even (x := j) (by omega)
      refine WC.region ?_
      refine WL.ex rfl rfl rfl (Ex.mv rfl) ?_
      refine WL.ex rfl rfl rfl (Ex.mv rfl) ?_
      refine WL.ex rfl rfl rfl (Ex.mv rfl) ?_
      refine WL.ex rfl rfl rfl (Ex.mv rfl) ?_
      refine WL.ex rfl rfl rfl (Ex.add rfl rfl (c := ((j + 1 : Nat) : Int)) (by rw [show (j : Int) + 1 = ((j + 1 : Nat) : Int) by omega]; exact u64w_lt _ (by omega))) ?_
      refine WL.ac rfl rfl rfl (Ac.call rfl Tryd.func15 nm15 rfl (rNode_ok w5 A c ls1 k (j + 1) (hr.keep0 M5.keep) h1s hlen (by omega) (by rw [← hx]; exact hxp.2) (hR.keep0 M5.keep))) ?_; rintro v17 w17 ⟨rfl, K17⟩
      rw [show nd dNode e0 ls1 k (j + 1) = pF ls n i k by rw [pF, ← hl, ← hj, hx]]
      have M17 := M5.step K17
      refine WL.ex rfl rfl rfl (Ex.iaA Tryd.underlying34 sz31 rfl rfl ⟨by omega, by omega⟩) ?_
      refine WL.ac0 rfl rfl (Ac.stA M17 ty31 rfl rfl (vs := bytesV (pF ls n i k)) rfl (h32_len hf32) (bytesV_one _) (i := 0) rfl (by rw [h32_len hf32, prf_len hpo]; simp; omega)) ?_; rintro v19 w19 ⟨K19, M19⟩
      try dsimp only [List.set] at M19
      rw [prfC, flat_set (fun a ha => h32_len (hpo.mem a ha)) (h32_len hf32) (i := k) (by rw [hpo.len]; omega) (by simp)] at M19
      rw [show (fillTo 32 k (pF ls n i) (List.replicate 32 0)).set k (pF ls n i k) = fillTo 32 (k + 1) (pF ls n i) (List.replicate 32 0) from fillTo_set 32 k (pF ls n i) _] at M19
      refine WL.nil ?_
      refine WX.next (?_)
      refine WC.region ?_
      refine WL.ex rfl rfl rfl (Ex.mv rfl) ?_
      refine WL.ex rfl rfl rfl (Ex.quo rfl rfl (by decide) (c := ((j / 2 : Nat) : Int)) (u64quo _ 2 (by omega))) ?_
      refine WL.ex rfl rfl rfl (Ex.asg rfl) ?_
      refine WL.nil ?_
      refine WX.normal_block (WX.next (?_))
      refine WC.region ?_
      refine WL.ex rfl rfl rfl (Ex.add rfl rfl (i64w _ (by omega) (by omega))) ?_
      refine WL.ex rfl rfl rfl (Ex.mv rfl) ?_
      refine WL.nil ?_
      refine WX.again (((k + 1, j / 2) : Nat × Nat)) ?_ ?_ (.cons rfl (.cons rfl (.cons rfl (.cons rfl (.cons rfl (.cons rfl (.nil)))))))
      · dsimp only; omega
      · exact ⟨by dsimp only; omega, by dsimp only; rw [div_up, hj], M19⟩
    · have hx := xor1_odd (x := j) (by omega)
      refine WC.region ?_
      refine WL.ex rfl rfl rfl (Ex.mv rfl) ?_
      refine WL.ex rfl rfl rfl (Ex.mv rfl) ?_
      refine WL.ex rfl rfl rfl (Ex.mv rfl) ?_
      refine WL.ex rfl rfl rfl (Ex.mv rfl) ?_
      refine WL.ex rfl rfl rfl (Ex.sub rfl rfl (c := ((j - 1 : Nat) : Int)) (u64sub (b := 1) (by omega) (by omega))) ?_
      refine WL.ac rfl rfl rfl (Ac.call rfl Tryd.func15 nm15 rfl (rNode_ok w5 A c ls1 k (j - 1) (hr.keep0 M5.keep) h1s hlen (by omega) (by rw [← hx]; exact hxp.2) (hR.keep0 M5.keep))) ?_; rintro v30 w30 ⟨rfl, K30⟩
      rw [show nd dNode e0 ls1 k (j - 1) = pF ls n i k by rw [pF, ← hl, ← hj, hx]]
      have M30 := M5.step K30
      refine WL.ex rfl rfl rfl (Ex.iaA Tryd.underlying34 sz31 rfl rfl ⟨by omega, by omega⟩) ?_
      refine WL.ac0 rfl rfl (Ac.stA M30 ty31 rfl rfl (vs := bytesV (pF ls n i k)) rfl (h32_len hf32) (bytesV_one _) (i := 0) rfl (by rw [h32_len hf32, prf_len hpo]; simp; omega)) ?_; rintro v32 w32 ⟨K32, M32⟩
      try dsimp only [List.set] at M32
      rw [prfC, flat_set (fun a ha => h32_len (hpo.mem a ha)) (h32_len hf32) (i := k) (by rw [hpo.len]; omega) (by simp)] at M32
      rw [show (fillTo 32 k (pF ls n i) (List.replicate 32 0)).set k (pF ls n i k) = fillTo 32 (k + 1) (pF ls n i) (List.replicate 32 0) from fillTo_set 32 k (pF ls n i) _] at M32
      refine WL.nil ?_
      refine WX.next (?_)
      refine WC.region ?_
      refine WL.ex rfl rfl rfl (Ex.mv rfl) ?_
      refine WL.ex rfl rfl rfl (Ex.quo rfl rfl (by decide) (c := ((j / 2 : Nat) : Int)) (u64quo _ 2 (by omega))) ?_
      refine WL.ex rfl rfl rfl (Ex.asg rfl) ?_
      refine WL.nil ?_
      refine WX.normal_block (WX.next (?_))
      refine WC.region ?_
      refine WL.ex rfl rfl rfl (Ex.add rfl rfl (i64w _ (by omega) (by omega))) ?_
      refine WL.ex rfl rfl rfl (Ex.mv rfl) ?_
      refine WL.nil ?_
      refine WX.again (((k + 1, j / 2) : Nat × Nat)) ?_ ?_ (.cons rfl (.cons rfl (.cons rfl (.cons rfl (.cons rfl (.cons rfl (.nil)))))))
      · dsimp only; omega
      · exact ⟨by dsimp only; omega, by dsimp only; rw [div_up, hj], M32⟩
  · obtain rfl : d = k := by omega
    refine WC.exit ?_
    refine WX.exit_then (WX.exit_then (WX.exit_block (WX.next (?_))))
    refine WC.seq ?_
    refine WC.region ?_
    refine WL.ex rfl rfl rfl (Ex.loadA ty34 rfl (prf_len (by first | assumption | exact prf0_ok)) (M5.rdw (i := 0) rfl)) ?_
    refine WL.ac0 rfl rfl (Ac.stA M5 ty34 rfl rfl rfl (prf_len (by first | assumption | exact prf0_ok)) (prf_one) (i := 1) rfl (by first | (rw [prf_len (by first | assumption | exact prf0_ok), prf_len (by first | assumption | exact prf0_ok)]; decide) | (rw [prf_len (by first | assumption | exact prf0_ok)]; decide) | rw [prf_len (by first | assumption | exact prf0_ok)])) ?_; rintro v39 w39 ⟨K39, M39⟩
    try dsimp only [List.set] at M39
    rw [splice_all _ _ (by first | rw [prf_len (by first | assumption | exact prf0_ok), prf_len (by first | assumption | exact prf0_ok)] | rw [prf_len (by first | assumption | exact prf0_ok)])] at M39
    refine WL.nil ?_
    refine WX.next (?_)
    refine WC.ret ?_
    refine WX.retc rfl rfl (run_loadVarA ty34 (prf_len (by first | assumption | exact prf0_ok)) (M39.rdw (i := 1) rfl)) ?_
    exact ⟨rfl, M39.keep⟩

end Go.Proofs.YtchmjpdkonfifaaDoor
