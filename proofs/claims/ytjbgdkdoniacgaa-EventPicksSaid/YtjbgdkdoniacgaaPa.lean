/- Walks, written by gen.py off the translation's own print: each says what the Go function comes to. -/
import Derived.Test.YtjbgdkdoniacgaaFacts
import Derived.Test.YtjbgdkdoniacgaaExt
import Derived.Test.YtjbgdkdoniacgaaSum
import Derived.Test.YtjbgdkdoniacgaaFn
set_option linter.unusedVariables false
set_option linter.unusedSimpArgs false
namespace Go.Proofs.Ytjbgdkdoniacgaa
open Go.Sx Go.RowKit
attribute [local irreducible] Ac Ex WL WC WX WP Gives

/- bytes.Clone -/
theorem clone_ok (w : World) (A : Option Addr) (c : Nat) (l : List UInt8) (hr : Rd w A (bytesV l)) (hb : l.length ≤ 70368744177664) :
    Gives Try.prog 34 #[.slice A l.length c] w fun v w' => New w w' (row v 5 1 l.length (bytesV l)) := by
  have M0 := Mem.start w nof
  refine Gives.enter (n := 8) Try.func34 rfl Try.ntmps34 rfl (env := [(0, .slice A l.length c)]) rfl ?_
  refine WC.seq ?_
  refine WC.region ?_
  refine WL.ex rfl rfl rfl (Ex.asg rfl) ?_
  refine WL.nil ?_
  refine WX.next (?_)
  refine WC.seq ?_
  refine WC.seq ?_
  refine WC.region ?_
  refine WL.ex rfl rfl rfl (Ex.mv rfl) ?_
  refine WL.ex rfl rfl rfl (Ex.eqN Try.underlying25 rfl) ?_
  refine WL.nil ?_
  refine WX.next (?_)
  refine WC.cond rfl (fun hc => ?_) (fun hc => ?_)
  · have hl : l = [] := by
      cases l with
      | nil => rfl
      | cons b r => obtain ⟨a, ha, _⟩ := hr 0 (byteV b) rfl; subst ha; cases hc
    subst hl
    refine WC.seq ?_
    refine WC.region ?_
    refine WL.ex rfl rfl rfl (Ex.asg rfl) ?_
    refine WL.nil ?_
    refine WX.next (?_)
    refine WC.ret ?_
    refine WX.ret_then (?_)
    refine WX.ret1 rfl rfl ?_
    first | exact M0.toNew | exact (M0.free (r := row (.slice none 0 0) 5 1 0 []) (row_nil _ _ _) rfl).toNew
  · skip
    refine WC.skip ?_
    refine WX.next (?_)
    refine WC.seq ?_
    refine WC.region ?_
    refine WL.ac rfl rfl rfl (Ac.bs0 M0 Try.underlying25 sz5) ?_; rintro v5 w5 ⟨g5, rfl, hg5, K5, M5⟩
    refine WL.ex rfl rfl rfl (Ex.mv rfl) ?_
    refine WL.ac rfl rfl rfl (Ac.app M5 el25 rfl rfl (i := 0) rfl (by simp) (M5.rd hr) (bytesV_one _) (by simp; omega) (by simp [maxLen]; omega)) ?_; rintro v7 w7 ⟨K7, M7⟩
    try dsimp only [List.set] at M7
    simp only [Nat.zero_add, List.nil_append] at M7
    refine WL.ex rfl rfl rfl (Ex.asg rfl) ?_
    refine WL.nil ?_
    refine WX.next (?_)
    refine WC.ret ?_
    refine WX.ret1 rfl rfl ?_
    first | exact M7.toNew | exact (M7.free (r := row (.slice none 0 0) 5 1 0 []) (row_nil _ _ _) rfl).toNew

/-- A writer at block g: the value in its field, the bytes that it has. -/
abbrev wrR (g : Nat) (v : Value) (l : List UInt8) : Res := box1 g (fun v => [v]) 58 v 5 1 l.length (bytesV l)

/- (*sponsion/pack.Writer).num -/
theorem wnum_ok (w : World) (g : Nat) (v : Value) (l : List UInt8) (x : Nat) (size : Nat) (h : (wrR g v l).sat w) (hs : size ≤ 8) (hx : x < 18446744073709551616) (hb : l.length ≤ 35184372088832) :
    Gives Try.prog 31 #[.pointer (some ⟨g, 0, none⟩), .int .u64 (x : Int), .int .i64 (size : Int)] w fun u w' => u = .pointer (some ⟨g, 0, none⟩) ∧ ∃ v', Turn w w' (wrR g v l) (wrR g v' (l ++ be size x)) := by
  have M0 := (Mem.begin h).open1
  refine Gives.enter (n := 29) Try.func31 rfl Try.ntmps31 rfl (env := [(0, .pointer (some ⟨g, 0, none⟩)), (1, .int .u64 (x : Int)), (2, .int .i64 (size : Int))]) rfl ?_
  refine WC.seq ?_
  refine WC.region ?_
  refine WL.ex rfl rfl rfl (Ex.asg rfl) ?_
  refine WL.nil ?_
  refine WX.next (?_)
  refine WC.seq ?_
  refine WC.seq ?_
  refine WC.region ?_
  refine WL.ex rfl rfl rfl (Ex.mv rfl) ?_
  refine WL.ex rfl rfl rfl (Ex.sub rfl rfl (i64w _ (by omega) (by omega))) ?_
  refine WL.ex rfl rfl rfl (Ex.asg rfl) ?_
  refine WL.nil ?_
  refine WX.next (?_)
  refine WC.block ?_
  refine WC.loop (σ := Nat) (fun s => [(0, .pointer (some ⟨g, 0, none⟩)), (1, .int .u64 (x : Int)), (7, .int .i64 ((s : Int) - 1))]) (fun s wr => ∃ v1 l1, s ≤ size ∧ l1 ++ be s x = l ++ be size x ∧ Mem w wr (· ∈ (wrR g v l).fp) [blk g [v1] 58, row v1 5 1 l1.length (bytesV l1)]) (fun s => s) (size) ?_ (.cons rfl (.cons rfl (.cons rfl (.nil)))) ?_
  · exact ⟨v, l, Nat.le_refl _, rfl, M0⟩
  rintro s w5 ⟨v1, l1, hs1, hl1, M5⟩
  refine WC.seq ?_
  refine WC.seq ?_
  refine WC.region ?_
  refine WL.ex rfl rfl rfl (Ex.mv rfl) ?_
  refine WL.ex rfl rfl rfl (Ex.geq rfl rfl) ?_
  refine WL.nil ?_
  refine WX.next (?_)
  refine WC.cond_dec rfl (fun hc11 => ?_) (fun hc11 => ?_)
  · obtain ⟨j, rfl⟩ : ∃ j, s = j + 1 := ⟨s - 1, by omega⟩
    have hlen : l1.length + (j + 1) = l.length + size := by have := congrArg List.length hl1; simpa using this
    refine WC.sub (env' := [(0, .pointer (some ⟨g, 0, none⟩)), (1, .int .u64 (x : Int)), (7, .int .i64 (j : Int))]) (.cons rfl (.cons rfl (.cons (congrArg some (congrArg (Value.int .i64) (by omega))) .nil))) ?_
    refine WC.skip ?_
    refine WX.next (?_)
    refine WC.seq ?_
    refine WC.block ?_
    refine WC.draw (Keep nof w5.drew) [11, 14] (.one 0 0 (.one 1 0 (.one 2 0 (.one 3 0 (.one 5 0 (.one 6 0 (.one 7 0 (.one 8 0 (.one 9 0 (.one 4 1 (.one 10 2 (.one 11 2 (.one 12 0 (.one 13 0 (.one 14 2 .nil))))))))))))))) mixed (by kernel_rfl) (by kernel_rfl) (by kernel_rfl) (HQ.block (HQ.then_ (HQ.then_ (HQ.block (HQ.then_ HQ.body))))) ?_
    obtain ⟨w8, hw8⟩ : ∃ v, v = w5.drew := ⟨_, rfl⟩
    have D8 : Keep nof w5 w8 := by rw [hw8]; exact Keep.drew _ _
    have M8 := M5.step D8
    rw [← hw8]; clear hw8
    refine WP.p rfl rfl rfl rfl (fun _ => Ex.mv rfl) ?_
    refine WP.p rfl rfl rfl rfl (fun _ => Ex.mv rfl) ?_
    refine WP.p rfl rfl rfl rfl (fun _ => Ex.nilc rfl) ?_
    refine WP.p rfl rfl rfl rfl (fun _ => Ex.fa fl58_0 rfl) ?_
    refine WP.p rfl rfl rfl rfl (fun _ => Ex.mv rfl) ?_
    refine WP.p rfl rfl rfl rfl (fun _ => Ex.mv rfl) ?_
    refine WP.p rfl rfl rfl rfl (fun _ => Ex.mul rfl rfl (i64w _ (by omega) (by omega))) ?_
    refine WP.p rfl rfl rfl rfl (fun _ => Ex.shr rfl rfl (m := 8 * j) (by omega) (shrN _ _ _ (by simp [IntKind.bits]; omega))) ?_
    refine WP.p rfl rfl rfl rfl (fun _ => Ex.cvI Try.underlying29 Try.underlying5 rfl (u8b _)) ?_
    refine WP.q (Keep.refl _ _) rfl rfl rfl rfl (fun w' hS => Ex.load ty25 rfl (hS.cell (M8.cell (i := 0) rfl rfl) (fun f => f))) ?_
    refine WP.as rfl rfl rfl rfl (Ac.bs M8 (parts := [(0, .tmp 23)]) rfl rfl (LitS.one el25 rfl)) ?_; rintro v19 w19 ⟨g19, rfl, hg19, K19, M19⟩
    refine ⟨Keep nof w19, fun u h => K19.trans h, Keep.refl _ _, ?_⟩
    refine WP.a rfl rfl rfl rfl (Ac.app M19 el25 rfl rfl (i := 2) rfl rfl (M19.rdw (i := 0) rfl) (by simp [Value.oneCell']) (by simp; omega) (by simp [maxLen]; omega)) ?_; rintro v20 w20 ⟨K20, M20⟩; refine .inl ⟨rfl, Keep nof w20, ?_⟩
    try dsimp only [List.set] at M20
    rw [bytesV_snoc, len_snoc l1 (UInt8.ofNat (x / 2 ^ (8 * j)))] at M20
    obtain ⟨A20, c20, rfl⟩ := own_slice (M20.get (i := 2) rfl)
    refine WP.p rfl rfl rfl rfl (fun _ => Ex.nilc rfl) ?_
    refine WP.p rfl rfl rfl rfl (fun _ => Ex.fa fl58_0 rfl) ?_
    refine WP.a0 rfl rfl rfl (Ac.st M20 ty25 rfl rfl rfl (i := 1) rfl (by simp)) ?_; rintro v23 w23 ⟨K23, M23⟩; refine .inl ⟨rfl, Keep nof w23, ?_⟩
    try dsimp only [List.set] at M23
    refine WP.nil ?_
    refine WX.normal_block (WX.next (?_))
    refine WC.region ?_
    refine WL.ex rfl rfl rfl (Ex.mv rfl) ?_
    refine WL.ex rfl rfl rfl (Ex.sub rfl rfl (i64w _ (by omega) (by omega))) ?_
    refine WL.ex rfl rfl rfl (Ex.asg rfl) ?_
    refine WL.nil ?_
    refine WX.again (j) ?_ ?_ (.cons rfl (.cons rfl (.cons rfl (.nil))))
    · (try dsimp only); omega
    · exact ⟨_, _, by omega, by rw [← hl1]; simp [be], M23.drop1⟩
  · obtain rfl : s = 0 := by omega
    refine WC.exit ?_
    refine WX.exit_then (WX.exit_then (WX.exit_block (WX.next (?_))))
    refine WC.seq ?_
    refine WC.region ?_
    refine WL.ex rfl rfl rfl (Ex.mv rfl) ?_
    refine WL.ex rfl rfl rfl (Ex.asg rfl) ?_
    refine WL.nil ?_
    refine WX.next (?_)
    refine WC.ret ?_
    refine WX.ret1 rfl rfl ?_
    obtain rfl : l1 = l ++ be size x := by simpa [be] using hl1
    exact ⟨rfl, v1, (M5.close1 (fun v => [v])).toTurn⟩

/- (*sponsion/pack.Writer).U8 -/
theorem wU8_ok (w : World) (g : Nat) (v : Value) (l : List UInt8) (x : Nat) (h : (wrR g v l).sat w) (hx : x < 256) (hb : l.length ≤ 35184372088832) :
    Gives Try.prog 20 #[.pointer (some ⟨g, 0, none⟩), .int .u8 (x : Int)] w fun u w' => u = .pointer (some ⟨g, 0, none⟩) ∧ ∃ v', Turn w w' (wrR g v l) (wrR g v' (l ++ be 1 x)) := by
  have M0 := Mem.begin h
  refine Gives.enter (n := 9) Try.func20 rfl Try.ntmps20 rfl (env := [(0, .pointer (some ⟨g, 0, none⟩)), (1, .int .u8 (x : Int))]) rfl ?_
  refine WC.seq ?_
  refine WC.region ?_
  refine WL.ex rfl rfl rfl (Ex.asg rfl) ?_
  refine WL.nil ?_
  refine WX.next (?_)
  refine WC.seq ?_
  refine WC.region ?_
  refine WL.ex rfl rfl rfl (Ex.mv rfl) ?_
  refine WL.ex rfl rfl rfl (Ex.mv rfl) ?_
  refine WL.ex rfl rfl rfl (Ex.cvI Try.underlying5 Try.underlying29 rfl (by first | exact u64w_lt _ (by omega) | exact u64w _)) ?_
  refine WL.ac rfl rfl rfl (Ac.call rfl Try.func31 nm31 rfl (wnum_ok w g v l x 1 (M0.get (i := 0) rfl) (by omega) (by omega) hb)) ?_; rintro v5 w5 ⟨rfl, v', T5⟩
  have M5 := M0.turned (i := 0) rfl T5
  refine WL.ex rfl rfl rfl (Ex.asg rfl) ?_
  refine WL.nil ?_
  refine WX.next (?_)
  refine WC.ret ?_
  refine WX.ret1 rfl rfl ?_
  exact ⟨rfl, v', T5⟩

/- (*sponsion/pack.Writer).U32 -/
theorem wU32_ok (w : World) (g : Nat) (v : Value) (l : List UInt8) (x : Nat) (h : (wrR g v l).sat w) (hx : x < 4294967296) (hb : l.length ≤ 35184372088832) :
    Gives Try.prog 24 #[.pointer (some ⟨g, 0, none⟩), .int .u32 (x : Int)] w fun u w' => u = .pointer (some ⟨g, 0, none⟩) ∧ ∃ v', Turn w w' (wrR g v l) (wrR g v' (l ++ be 4 x)) := by
  have M0 := Mem.begin h
  refine Gives.enter (n := 9) Try.func24 rfl Try.ntmps24 rfl (env := [(0, .pointer (some ⟨g, 0, none⟩)), (1, .int .u32 (x : Int))]) rfl ?_
  refine WC.seq ?_
  refine WC.region ?_
  refine WL.ex rfl rfl rfl (Ex.asg rfl) ?_
  refine WL.nil ?_
  refine WX.next (?_)
  refine WC.seq ?_
  refine WC.region ?_
  refine WL.ex rfl rfl rfl (Ex.mv rfl) ?_
  refine WL.ex rfl rfl rfl (Ex.mv rfl) ?_
  refine WL.ex rfl rfl rfl (Ex.cvI Try.underlying32 Try.underlying29 rfl (by first | exact u64w_lt _ (by omega) | exact u64w _)) ?_
  refine WL.ac rfl rfl rfl (Ac.call rfl Try.func31 nm31 rfl (wnum_ok w g v l x 4 (M0.get (i := 0) rfl) (by omega) (by omega) hb)) ?_; rintro v5 w5 ⟨rfl, v', T5⟩
  have M5 := M0.turned (i := 0) rfl T5
  refine WL.ex rfl rfl rfl (Ex.asg rfl) ?_
  refine WL.nil ?_
  refine WX.next (?_)
  refine WC.ret ?_
  refine WX.ret1 rfl rfl ?_
  exact ⟨rfl, v', T5⟩

/- (*sponsion/pack.Writer).U64 -/
theorem wU64_ok (w : World) (g : Nat) (v : Value) (l : List UInt8) (x : Nat) (h : (wrR g v l).sat w) (hx : x < 18446744073709551616) (hb : l.length ≤ 35184372088832) :
    Gives Try.prog 21 #[.pointer (some ⟨g, 0, none⟩), .int .u64 (x : Int)] w fun u w' => u = .pointer (some ⟨g, 0, none⟩) ∧ ∃ v', Turn w w' (wrR g v l) (wrR g v' (l ++ be 8 x)) := by
  have M0 := Mem.begin h
  refine Gives.enter (n := 8) Try.func21 rfl Try.ntmps21 rfl (env := [(0, .pointer (some ⟨g, 0, none⟩)), (1, .int .u64 (x : Int))]) rfl ?_
  refine WC.seq ?_
  refine WC.region ?_
  refine WL.ex rfl rfl rfl (Ex.asg rfl) ?_
  refine WL.nil ?_
  refine WX.next (?_)
  refine WC.seq ?_
  refine WC.region ?_
  refine WL.ex rfl rfl rfl (Ex.mv rfl) ?_
  refine WL.ex rfl rfl rfl (Ex.mv rfl) ?_
  refine WL.ac rfl rfl rfl (Ac.call rfl Try.func31 nm31 rfl (wnum_ok w g v l x 8 (M0.get (i := 0) rfl) (by omega) (by omega) hb)) ?_; rintro v4 w4 ⟨rfl, v', T4⟩
  have M4 := M0.turned (i := 0) rfl T4
  refine WL.ex rfl rfl rfl (Ex.asg rfl) ?_
  refine WL.nil ?_
  refine WX.next (?_)
  refine WC.ret ?_
  refine WX.ret1 rfl rfl ?_
  exact ⟨rfl, v', T4⟩

/- (*sponsion/pack.Writer).Raw -/
theorem wRaw_ok (w : World) (g : Nat) (v : Value) (l : List UInt8) (A : Option Addr) (c : Nat) (m : List UInt8) (h : (wrR g v l).sat w) (hr : Rd w A (bytesV m)) (hb : l.length ≤ 35184372088832) (hm : m.length ≤ 35184372088832) :
    Gives Try.prog 32 #[.pointer (some ⟨g, 0, none⟩), .slice A m.length c] w fun u w' => u = .pointer (some ⟨g, 0, none⟩) ∧ ∃ v', Turn w w' (wrR g v l) (wrR g v' (l ++ m)) := by
  have M0 := (Mem.begin h).open1
  refine Gives.enter (n := 15) Try.func32 rfl Try.ntmps32 rfl (env := [(0, .pointer (some ⟨g, 0, none⟩)), (1, .slice A m.length c)]) rfl ?_
  refine WC.seq ?_
  refine WC.region ?_
  refine WL.ex rfl rfl rfl (Ex.asg rfl) ?_
  refine WL.nil ?_
  refine WX.next (?_)
  refine WC.seq ?_
  refine WC.region ?_
  refine WL.ex rfl rfl rfl (Ex.mv rfl) ?_
  refine WL.ex rfl rfl rfl (Ex.mv rfl) ?_
  refine WL.ex rfl rfl rfl (Ex.nilc rfl) ?_
  refine WL.ex rfl rfl rfl (Ex.fa fl58_0 rfl) ?_
  refine WL.ex rfl rfl rfl (Ex.load ty25 rfl (M0.cell (i := 0) rfl rfl)) ?_
  refine WL.ex rfl rfl rfl (Ex.mv rfl) ?_
  refine WL.ac rfl rfl rfl (Ac.app M0 el25 rfl rfl (i := 1) rfl (by simp) hr (bytesV_one _) (by omega) (by simp [maxLen]; omega)) ?_; rintro v8 w8 ⟨K8, M8⟩
  try dsimp only [List.set] at M8
  rw [← bytesV_append, len_app l m] at M8
  obtain ⟨A8, c8, rfl⟩ := own_slice (M8.get (i := 1) rfl)
  refine WL.ex rfl rfl rfl (Ex.nilc rfl) ?_
  refine WL.ex rfl rfl rfl (Ex.fa fl58_0 rfl) ?_
  refine WL.ac0 rfl rfl (Ac.st M8 ty25 rfl rfl rfl (i := 0) rfl (by simp)) ?_; rintro v11 w11 ⟨K11, M11⟩
  try dsimp only [List.set] at M11
  refine WL.nil ?_
  refine WX.next (?_)
  refine WC.seq ?_
  refine WC.region ?_
  refine WL.ex rfl rfl rfl (Ex.mv rfl) ?_
  refine WL.ex rfl rfl rfl (Ex.asg rfl) ?_
  refine WL.nil ?_
  refine WX.next (?_)
  refine WC.ret ?_
  refine WX.ret1 rfl rfl ?_
  exact ⟨rfl, _, (M11.close1 (fun v => [v])).toTurn⟩

/- (*sponsion/pack.Writer).Bytes -/
theorem wBytes_ok (w : World) (g : Nat) (v : Value) (l : List UInt8) (h : (wrR g v l).sat w) (hb : l.length ≤ 35184372088832) :
    Gives Try.prog 25 #[.pointer (some ⟨g, 0, none⟩)] w fun u w' => New w w' (row u 5 1 l.length (bytesV l)) := by
  obtain ⟨A, c, rfl⟩ := own_slice h.2.1
  have M0 := (Mem.begin h).open1
  refine Gives.enter (n := 8) Try.func25 rfl Try.ntmps25 rfl (env := [(0, .pointer (some ⟨g, 0, none⟩))]) rfl ?_
  refine WC.seq ?_
  refine WC.region ?_
  refine WL.ex rfl rfl rfl (Ex.asg rfl) ?_
  refine WL.nil ?_
  refine WX.next (?_)
  refine WC.seq ?_
  refine WC.region ?_
  refine WL.ex rfl rfl rfl (Ex.mv rfl) ?_
  refine WL.ex rfl rfl rfl (Ex.nilc rfl) ?_
  refine WL.ex rfl rfl rfl (Ex.fa fl58_0 rfl) ?_
  refine WL.ex rfl rfl rfl (Ex.load ty25 rfl (M0.cell (i := 0) rfl rfl)) ?_
  refine WL.ac rfl rfl rfl (Ac.call rfl Try.func34 nm34 rfl (clone_ok w A c l (M0.rdr (i := 1) rfl) (by omega))) ?_; rintro v6 w6 N6
  have M6 := M0.new N6
  refine WL.ex rfl rfl rfl (Ex.asg rfl) ?_
  refine WL.nil ?_
  refine WX.next (?_)
  refine WC.ret ?_
  refine WX.ret1 rfl rfl ?_
  exact N6

/- sponsion/huge.Bytes -/
theorem hBytes_ok (w : World) (a : List Nat) (ha : Int4 a) :
    Gives Try.prog 33 #[.agg (intV a).toArray] w fun u w1 => u = .agg (bytesV (intB a)).toArray ∧ Keep nof w w1 := by
  have M0 := Mem.start w nof
  obtain ⟨hl4, hb4⟩ := ha
  refine Gives.enter (n := 24) Try.func33 rfl Try.ntmps33 rfl (env := [(0, .agg (intV a).toArray)]) rfl ?_
  refine WC.seq ?_
  refine WC.region ?_
  refine WL.ac rfl rfl rfl (Ac.box M0 rfl rfl) ?_; rintro v1 w1 ⟨g1, rfl, hg1, K1, M1⟩
  refine WL.ac rfl rfl rfl (Ac.alloc M1 (l := bytesV (List.replicate 32 0)) (by kernel_rfl)) ?_; rintro v2 w2 ⟨g2, rfl, hg2, K2, M2⟩
  refine WL.nil ?_
  refine WX.next (?_)
  refine WC.seq ?_
  refine WC.region ?_
  refine WL.ac rfl rfl rfl (Ac.alloc M2 (l := bytesV (List.replicate 32 0)) (by kernel_rfl)) ?_; rintro v3 w3 ⟨g3, rfl, hg3, K3, M3⟩
  refine WL.nil ?_
  refine WX.next (?_)
  refine WC.seq ?_
  refine WC.seq ?_
  refine WC.region ?_
  refine WL.ex rfl rfl rfl (Ex.mv rfl) ?_
  refine WL.nil ?_
  refine WX.next (?_)
  refine WC.block ?_
  refine WC.loop (σ := Nat) (fun i => [(1, .pointer (some ⟨g1, 0, none⟩)), (2, .pointer (some ⟨g2, 0, none⟩)), (3, .pointer (some ⟨g3, 0, none⟩)), (6, .int .i64 (i : Int))]) (fun i wr => i ≤ 32 ∧ Mem w wr nof [blk g3 (bytesV (fillTo 32 i (fun i => UInt8.ofNat (a.getD ((31 - i) / 8) 0 / 2 ^ (8 * ((31 - i) % 8)))) 0)) 23, blk g2 (bytesV (List.replicate 32 0)) 23, blk g1 (intV a) 31]) (fun i => 32 - i) (0) ?_ (.cons rfl (.cons rfl (.cons rfl (.cons rfl (.nil))))) ?_
  · exact ⟨by omega, by rw [fillTo_zero]; exact M3⟩
  rintro i w5 ⟨hi, M5⟩
  refine WC.seq ?_
  refine WC.region ?_
  refine WL.ex rfl rfl rfl (Ex.lss rfl rfl) ?_
  refine WL.nil ?_
  refine WX.next (?_)
  refine WC.seq ?_
  refine WC.cond_dec rfl (fun hc7 => ?_) (fun hc7 => ?_)
  · skip
    refine WC.skip ?_
    refine WX.next (?_)
    refine WC.seq ?_
    refine WC.block ?_
    refine WC.seq ?_
    refine WC.region ?_
    refine WL.ex rfl rfl rfl (Ex.mv rfl) ?_
    refine WL.ex rfl rfl rfl (Ex.asg rfl) ?_
    refine WL.nil ?_
    refine WX.next (?_)
    refine WC.seq ?_
    refine WC.region ?_
    refine WL.ex rfl rfl rfl (Ex.mv rfl) ?_
    refine WL.ex rfl rfl rfl (Ex.sub rfl rfl (c := ((31 - i : Nat) : Int)) (by rw [i64w _ (by omega) (by omega)]; omega)) ?_
    refine WL.ex rfl rfl rfl (Ex.asg rfl) ?_
    refine WL.nil ?_
    refine WX.next (?_)
    refine WC.region ?_
    refine WL.ex rfl rfl rfl (Ex.mv rfl) ?_
    refine WL.ex rfl rfl rfl (Ex.mv rfl) ?_
    refine WL.ex rfl rfl rfl (Ex.quo rfl rfl (by decide) (c := (((31 - i) / 8 : Nat) : Int)) (by rw [IntWalk.i64_quo _ _ (by omega)]; omega)) ?_
    refine WL.ex rfl rfl rfl (Ex.iaA Try.underlying31 sz29 rfl rfl ⟨by omega, by omega⟩) ?_
    refine WL.ex rfl rfl rfl (Ex.load ty29 rfl (M5.cell (i := 2) (v := .int .u64 ((a.getD ((31 - i) / 8) 0 : Nat) : Int)) rfl (by simp only [Int.toNat_natCast, Nat.mul_one, Nat.zero_add]; exact intV_get (by omega)))) ?_
    refine WL.ex rfl rfl rfl (Ex.mv rfl) ?_
    refine WL.ex rfl rfl rfl (Ex.rem rfl rfl (by decide) (c := (((31 - i) % 8 : Nat) : Int)) (by rw [Int.tmod_eq_emod_of_nonneg (by omega)]; omega)) ?_
    refine WL.ex rfl rfl rfl (Ex.mul rfl rfl (c := ((8 * ((31 - i) % 8) : Nat) : Int)) (by rw [i64w _ (by omega) (by omega)]; omega)) ?_
    refine WL.ex rfl rfl rfl (Ex.shr rfl rfl (m := 8 * ((31 - i) % 8)) rfl (shrN _ _ _ (by simp [IntKind.bits]; omega))) ?_
    refine WL.ex rfl rfl rfl (Ex.cvI Try.underlying29 Try.underlying5 rfl (u8b _)) ?_
    refine WL.ex rfl rfl rfl (Ex.iaA Try.underlying23 sz5 rfl rfl ⟨by omega, by omega⟩) ?_
    refine WL.ac0 rfl rfl (Ac.st M5 ty5 rfl rfl rfl (i := 0) rfl (by simp; omega)) ?_; rintro v23 w23 ⟨K23, M23⟩
    try dsimp only [List.set] at M23
    simp only [Int.toNat_natCast, Nat.mul_one, Nat.zero_add] at M23
    rw [bytesV_set, fillTo_set 32 i (fun i => UInt8.ofNat (a.getD ((31 - i) / 8) 0 / 2 ^ (8 * ((31 - i) % 8))))] at M23
    refine WL.nil ?_
    refine WX.normal_block (WX.next (?_))
    refine WC.region ?_
    refine WL.ex rfl rfl rfl (Ex.add rfl rfl (i64w _ (by omega) (by omega))) ?_
    refine WL.ex rfl rfl rfl (Ex.mv rfl) ?_
    refine WL.nil ?_
    refine WX.again (i + 1) ?_ ?_ (.cons rfl (.cons rfl (.cons rfl (.cons rfl (.nil)))))
    · (try dsimp only); omega
    · exact ⟨by omega, M23⟩
  · obtain rfl : i = 32 := by omega
    rw [fillTo_full 32 32 (Nat.le_refl _)] at M5
    refine WC.exit ?_
    refine WX.exit_then (WX.exit_then (WX.exit_block (WX.next (?_))))
    refine WC.seq ?_
    refine WC.region ?_
    refine WL.ex rfl rfl rfl (Ex.loadA ty23 rfl (l := bytesV (intB a)) (by simp) (M5.rdw (i := 0) rfl)) ?_
    refine WL.ac0 rfl rfl (Ac.stA M5 ty23 rfl rfl (vs := bytesV (intB a)) rfl (by simp) (bytesV_one _) (i := 1) rfl (by simp)) ?_; rintro v27 w27 ⟨K27, M27⟩
    try dsimp only [List.set] at M27
    rw [splice_all _ _ (by simp)] at M27
    refine WL.nil ?_
    refine WX.next (?_)
    refine WC.ret ?_
    refine WX.retc rfl rfl (run_loadVarA ty23 (l := bytesV (intB a)) (by simp) (M27.rdw (i := 1) rfl)) ?_
    exact ⟨rfl, M27.keep⟩

/- (*sponsion/pack.Writer).Int -/
theorem wInt_ok (w : World) (g : Nat) (v : Value) (l : List UInt8) (a : List Nat) (h : (wrR g v l).sat w) (ha : Int4 a) (hb : l.length ≤ 35184372088832) :
    Gives Try.prog 23 #[.pointer (some ⟨g, 0, none⟩), .agg (intV a).toArray] w fun u w1 => u = .pointer (some ⟨g, 0, none⟩) ∧ ∃ v1, Turn w w1 (wrR g v l) (wrR g v1 (l ++ intB a)) := by
  have M0 := Mem.begin h
  refine Gives.enter (n := 11) Try.func23 rfl Try.ntmps23 rfl (env := [(0, .pointer (some ⟨g, 0, none⟩)), (1, .agg (intV a).toArray)]) rfl ?_
  refine WC.seq ?_
  refine WC.region ?_
  refine WL.ac rfl rfl rfl (Ac.box M0 rfl rfl) ?_; rintro v1 w1 ⟨g1, rfl, hg1, K1, M1⟩
  refine WL.ex rfl rfl rfl (Ex.asg rfl) ?_
  refine WL.nil ?_
  refine WX.next (?_)
  refine WC.seq ?_
  refine WC.region ?_
  refine WL.ex rfl rfl rfl (Ex.loadA ty31 rfl (l := intV a) (by simpa using ha.1) (M1.rdw (i := 0) rfl)) ?_
  refine WL.ac rfl rfl rfl (Ac.call rfl Try.func33 nm33 rfl (hBytes_ok w1 a ha)) ?_; rintro v4 w4 ⟨rfl, K4⟩
  have M4 := M1.step K4
  refine WL.ac rfl rfl rfl (Ac.alloc M4 (l := bytesV (List.replicate 32 0)) (by kernel_rfl)) ?_; rintro v5 w5 ⟨gb, rfl, hg5, K5, M5⟩
  refine WL.ac0 rfl rfl (Ac.stA M5 ty23 rfl rfl (vs := bytesV (intB a)) rfl (by simp) (bytesV_one _) (i := 0) rfl (by simp)) ?_; rintro v6 w6 ⟨K6, M6⟩
  try dsimp only [List.set] at M6
  rw [splice_all _ _ (by simp)] at M6
  refine WL.nil ?_
  refine WX.next (?_)
  refine WC.seq ?_
  refine WC.region ?_
  refine WL.ex rfl rfl rfl (Ex.mv rfl) ?_
  refine WL.ex rfl rfl rfl (Ex.slA Try.underlying23 sz5 rfl) ?_
  refine WL.ac rfl rfl rfl (Ac.call rfl Try.func32 nm32 rfl (wRaw_ok w6 g v l _ 32 (intB a) (M6.get (i := 2) rfl) (M6.rdw (i := 0) rfl) hb (by simp))) ?_; rintro v9 w9 ⟨rfl, v1, T9⟩
  have M9 := M6.turned (i := 2) rfl T9
  refine WL.ex rfl rfl rfl (Ex.asg rfl) ?_
  refine WL.nil ?_
  refine WX.next (?_)
  refine WC.ret ?_
  refine WX.ret1 rfl rfl ?_
  exact ⟨rfl, v1, (Mem.sub M9 (.cons _ (.cons _ (.refl _)))).toTurn⟩

/- (*sponsion/pack.Writer).Hash -/
theorem wHash_ok (w : World) (g : Nat) (v : Value) (l : List UInt8) (m : List UInt8) (h : (wrR g v l).sat w) (hm : m.length = 32) (hb : l.length ≤ 35184372088832) :
    Gives Try.prog 22 #[.pointer (some ⟨g, 0, none⟩), .agg (bytesV m).toArray] w fun u w1 => u = .pointer (some ⟨g, 0, none⟩) ∧ ∃ v1, Turn w w1 (wrR g v l) (wrR g v1 (l ++ m)) := by
  have M0 := Mem.begin h
  refine Gives.enter (n := 8) Try.func22 rfl Try.ntmps22 rfl (env := [(0, .pointer (some ⟨g, 0, none⟩)), (1, .agg (bytesV m).toArray)]) rfl ?_
  refine WC.seq ?_
  refine WC.region ?_
  refine WL.ac rfl rfl rfl (Ac.box M0 rfl rfl) ?_; rintro v1 w1 ⟨g1, rfl, hg1, K1, M1⟩
  refine WL.ex rfl rfl rfl (Ex.asg rfl) ?_
  refine WL.nil ?_
  refine WX.next (?_)
  refine WC.seq ?_
  refine WC.region ?_
  refine WL.ex rfl rfl rfl (Ex.mv rfl) ?_
  refine WL.ex rfl rfl rfl (Ex.slA Try.underlying24 sz5 rfl) ?_
  refine WL.ac rfl rfl rfl (Ac.call rfl Try.func32 nm32 rfl ((by have := wRaw_ok w1 g v l (some ⟨g1, 0, none⟩) 32 m (M1.get (i := 1) rfl) (M1.rdw (i := 0) rfl) hb (by omega); rw [hm] at this; exact this))) ?_; rintro v5 w5 ⟨rfl, v1, T5⟩
  have M5 := M1.turned (i := 1) rfl T5
  refine WL.ex rfl rfl rfl (Ex.asg rfl) ?_
  refine WL.nil ?_
  refine WX.next (?_)
  refine WC.ret ?_
  refine WX.ret1 rfl rfl ?_
  exact ⟨rfl, v1, (Mem.sub M5 (.cons _ (.refl _))).toTurn⟩

end Go.Proofs.Ytjbgdkdoniacgaa
