/- Walks, written by gen.py off the translation's own print: each says what the Go function comes to. -/
import Derived.Test.YtnjbhhedaloghaaDoorFacts
import Derived.Test.YtnjbhhedaloghaaDoorExt
import Derived.Test.YtnjbhhedaloghaaDoorCod
set_option linter.unusedVariables false
set_option linter.unusedSimpArgs false
namespace Go.Proofs.YtnjbhhedaloghaaDoor
open Go.Sx Go.RowKit
attribute [local irreducible] Ac Ex WL WC WX WP Gives

/- bytes.Clone -/
theorem clone_ok (w : World) (A : Option Addr) (c : Nat) (l : List UInt8) (hr : Rd w A (bytesV l)) (hb : l.length ≤ 70368744177664) :
    Gives Tryd.prog 24 #[.slice A l.length c] w fun v w' => New w w' (row v 5 1 l.length (bytesV l)) := by
  have M0 := Mem.start w nof
  refine Gives.enter (n := 8) Tryd.func24 rfl Tryd.ntmps24 rfl (env := [(0, .slice A l.length c)]) rfl ?_
  refine WC.seq ?_
  refine WC.region ?_
  refine WL.ex rfl rfl rfl (Ex.asg rfl) ?_
  refine WL.nil ?_
  refine WX.next (?_)
  refine WC.seq ?_
  refine WC.seq ?_
  refine WC.region ?_
  refine WL.ex rfl rfl rfl (Ex.mv rfl) ?_
  refine WL.ex rfl rfl rfl (Ex.eqN Tryd.underlying29 rfl) ?_
  refine WL.nil ?_
  refine WX.next (?_)
  refine WC.cond rfl (fun hc => ?_) (fun hc => ?_)
  · have hl : l = [] := by
      cases l with
      | nil => rfl
      | cons b r => obtain ⟨a, ha, _⟩ := hr 0 (byteV b) rfl; subst ha; cases hc
    subst hl
    refine WC.seq ?_
    refine WC.region ?_
    refine WL.ex rfl rfl rfl (Ex.asg rfl) ?_
    refine WL.nil ?_
    refine WX.next (?_)
    refine WC.ret ?_
    refine WX.ret_then (?_)
    refine WX.ret1 rfl rfl ?_
    first | exact M0.toNew | exact (M0.free (r := row (.slice none 0 0) 5 1 0 []) (row_nil _ _ _) rfl).toNew
  · skip
    refine WC.skip ?_
    refine WX.next (?_)
    refine WC.seq ?_
    refine WC.region ?_
    refine WL.ac rfl rfl rfl (Ac.bs0 M0 Tryd.underlying29 sz5) ?_; rintro v5 w5 ⟨g5, rfl, hg5, K5, M5⟩
    refine WL.ex rfl rfl rfl (Ex.mv rfl) ?_
    refine WL.ac rfl rfl rfl (Ac.app M5 el29 rfl rfl (i := 0) rfl (by simp) (M5.rd hr) (bytesV_one _) (by simp; omega) (by simp [maxLen]; omega)) ?_; rintro v7 w7 ⟨K7, M7⟩
    try dsimp only [List.set] at M7
    simp only [Nat.zero_add, List.nil_append] at M7
    refine WL.ex rfl rfl rfl (Ex.asg rfl) ?_
    refine WL.nil ?_
    refine WX.next (?_)
    refine WC.ret ?_
    refine WX.ret1 rfl rfl ?_
    first | exact M7.toNew | exact (M7.free (r := row (.slice none 0 0) 5 1 0 []) (row_nil _ _ _) rfl).toNew

/-- A writer at block g: the value in its field, the bytes that it has. -/
abbrev wrR (g : Nat) (v : Value) (l : List UInt8) : Res := box1 g (fun v => [v]) 50 v 5 1 l.length (bytesV l)

/- (*sponsion/pack.Writer).num -/
theorem wnum_ok (w : World) (g : Nat) (v : Value) (l : List UInt8) (x : Nat) (size : Nat) (h : (wrR g v l).sat w) (hs : size ≤ 8) (hx : x < 18446744073709551616) (hb : l.length ≤ 35184372088832) :
    Gives Tryd.prog 19 #[.pointer (some ⟨g, 0, none⟩), .int .u64 (x : Int), .int .i64 (size : Int)] w fun u w' => u = .pointer (some ⟨g, 0, none⟩) ∧ ∃ v', Turn w w' (wrR g v l) (wrR g v' (l ++ be size x)) := by
  have M0 := (Mem.begin h).open1
  refine Gives.enter (n := 29) Tryd.func19 rfl Tryd.ntmps19 rfl (env := [(0, .pointer (some ⟨g, 0, none⟩)), (1, .int .u64 (x : Int)), (2, .int .i64 (size : Int))]) rfl ?_
  refine WC.seq ?_
  refine WC.region ?_
  refine WL.ex rfl rfl rfl (Ex.asg rfl) ?_
  refine WL.nil ?_
  refine WX.next (?_)
  refine WC.seq ?_
  refine WC.seq ?_
  refine WC.region ?_
  refine WL.ex rfl rfl rfl (Ex.mv rfl) ?_
  refine WL.ex rfl rfl rfl (Ex.sub rfl rfl (i64w _ (by omega) (by omega))) ?_
  refine WL.ex rfl rfl rfl (Ex.asg rfl) ?_
  refine WL.nil ?_
  refine WX.next (?_)
  refine WC.block ?_
  refine WC.loop (σ := Nat) (fun s => [(0, .pointer (some ⟨g, 0, none⟩)), (1, .int .u64 (x : Int)), (7, .int .i64 ((s : Int) - 1))]) (fun s wr => ∃ v1 l1, s ≤ size ∧ l1 ++ be s x = l ++ be size x ∧ Mem w wr (· ∈ (wrR g v l).fp) [blk g [v1] 50, row v1 5 1 l1.length (bytesV l1)]) (fun s => s) (size) ?_ (.cons rfl (.cons rfl (.cons rfl (.nil)))) ?_
  · exact ⟨v, l, Nat.le_refl _, rfl, M0⟩
  rintro s w5 ⟨v1, l1, hs1, hl1, M5⟩
  refine WC.seq ?_
  refine WC.seq ?_
  refine WC.region ?_
  refine WL.ex rfl rfl rfl (Ex.mv rfl) ?_
  refine WL.ex rfl rfl rfl (Ex.geq rfl rfl) ?_
  refine WL.nil ?_
  refine WX.next (?_)
  refine WC.cond_dec rfl (fun hc11 => ?_) (fun hc11 => ?_)
  · obtain ⟨j, rfl⟩ : ∃ j, s = j + 1 := ⟨s - 1, by omega⟩
    have hlen : l1.length + (j + 1) = l.length + size := by have := congrArg List.length hl1; simpa using this
    refine WC.sub (env' := [(0, .pointer (some ⟨g, 0, none⟩)), (1, .int .u64 (x : Int)), (7, .int .i64 (j : Int))]) (.cons rfl (.cons rfl (.cons (congrArg some (congrArg (Value.int .i64) (by omega))) .nil))) ?_
    refine WC.skip ?_
    refine WX.next (?_)
    refine WC.seq ?_
    refine WC.block ?_
    refine WC.draw (Keep nof w5.drew) [11, 14] (.one 0 0 (.one 1 0 (.one 2 0 (.one 3 0 (.one 5 0 (.one 6 0 (.one 7 0 (.one 8 0 (.one 9 0 (.one 4 1 (.one 10 2 (.one 11 2 (.one 12 0 (.one 13 0 (.one 14 2 .nil))))))))))))))) mixed (by kernel_rfl) (by kernel_rfl) (by kernel_rfl) (HQ.block (HQ.then_ (HQ.then_ (HQ.block (HQ.then_ HQ.body))))) ?_
    obtain ⟨w8, hw8⟩ : ∃ v, v = w5.drew := ⟨_, rfl⟩
    have D8 : Keep nof w5 w8 := by rw [hw8]; exact Keep.drew _ _
    have M8 := M5.step D8
    rw [← hw8]; clear hw8
    refine WP.p rfl rfl rfl rfl (fun _ => Ex.mv rfl) ?_
    refine WP.p rfl rfl rfl rfl (fun _ => Ex.mv rfl) ?_
    refine WP.p rfl rfl rfl rfl (fun _ => Ex.nilc rfl) ?_
    refine WP.p rfl rfl rfl rfl (fun _ => Ex.fa fl50_0 rfl) ?_
    refine WP.p rfl rfl rfl rfl (fun _ => Ex.mv rfl) ?_
    refine WP.p rfl rfl rfl rfl (fun _ => Ex.mv rfl) ?_
    refine WP.p rfl rfl rfl rfl (fun _ => Ex.mul rfl rfl (i64w _ (by omega) (by omega))) ?_
    refine WP.p rfl rfl rfl rfl (fun _ => Ex.shr rfl rfl (m := 8 * j) (by omega) (shrN _ _ _ (by simp [IntKind.bits]; omega))) ?_
    refine WP.p rfl rfl rfl rfl (fun _ => Ex.cvI Tryd.underlying33 Tryd.underlying5 rfl (u8b _)) ?_
    refine WP.q (Keep.refl _ _) rfl rfl rfl rfl (fun w' hS => Ex.load ty29 rfl (hS.cell (M8.cell (i := 0) rfl rfl) (fun f => f))) ?_
    refine WP.as rfl rfl rfl rfl (Ac.bs M8 (parts := [(0, .tmp 23)]) rfl rfl (LitS.one el29 rfl)) ?_; rintro v19 w19 ⟨g19, rfl, hg19, K19, M19⟩
    refine ⟨Keep nof w19, fun u h => K19.trans h, Keep.refl _ _, ?_⟩
    refine WP.a rfl rfl rfl rfl (Ac.app M19 el29 rfl rfl (i := 2) rfl rfl (M19.rdw (i := 0) rfl) (by simp [Value.oneCell']) (by simp; omega) (by simp [maxLen]; omega)) ?_; rintro v20 w20 ⟨K20, M20⟩; refine .inl ⟨rfl, Keep nof w20, ?_⟩
    try dsimp only [List.set] at M20
    rw [bytesV_snoc, len_snoc l1 (UInt8.ofNat (x / 2 ^ (8 * j)))] at M20
    obtain ⟨A20, c20, rfl⟩ := own_slice (M20.get (i := 2) rfl)
    refine WP.p rfl rfl rfl rfl (fun _ => Ex.nilc rfl) ?_
    refine WP.p rfl rfl rfl rfl (fun _ => Ex.fa fl50_0 rfl) ?_
    refine WP.a0 rfl rfl rfl (Ac.st M20 ty29 rfl rfl rfl (i := 1) rfl (by simp)) ?_; rintro v23 w23 ⟨K23, M23⟩; refine .inl ⟨rfl, Keep nof w23, ?_⟩
    try dsimp only [List.set] at M23
    refine WP.nil ?_
    refine WX.normal_block (WX.next (?_))
    refine WC.region ?_
    refine WL.ex rfl rfl rfl (Ex.mv rfl) ?_
    refine WL.ex rfl rfl rfl (Ex.sub rfl rfl (i64w _ (by omega) (by omega))) ?_
    refine WL.ex rfl rfl rfl (Ex.asg rfl) ?_
    refine WL.nil ?_
    refine WX.again (j) ?_ ?_ (.cons rfl (.cons rfl (.cons rfl (.nil))))
    · (try dsimp only); omega
    · exact ⟨_, _, by omega, by rw [← hl1]; simp [be], M23.drop1⟩
  · obtain rfl : s = 0 := by omega
    refine WC.exit ?_
    refine WX.exit_then (WX.exit_then (WX.exit_block (WX.next (?_))))
    refine WC.seq ?_
    refine WC.region ?_
    refine WL.ex rfl rfl rfl (Ex.mv rfl) ?_
    refine WL.ex rfl rfl rfl (Ex.asg rfl) ?_
    refine WL.nil ?_
    refine WX.next (?_)
    refine WC.ret ?_
    refine WX.ret1 rfl rfl ?_
    obtain rfl : l1 = l ++ be size x := by simpa [be] using hl1
    exact ⟨rfl, v1, (M5.close1 (fun v => [v])).toTurn⟩

/- (*sponsion/pack.Writer).U8 -/
theorem wU8_ok (w : World) (g : Nat) (v : Value) (l : List UInt8) (x : Nat) (h : (wrR g v l).sat w) (hx : x < 256) (hb : l.length ≤ 35184372088832) :
    Gives Tryd.prog 12 #[.pointer (some ⟨g, 0, none⟩), .int .u8 (x : Int)] w fun u w' => u = .pointer (some ⟨g, 0, none⟩) ∧ ∃ v', Turn w w' (wrR g v l) (wrR g v' (l ++ be 1 x)) := by
  have M0 := Mem.begin h
  refine Gives.enter (n := 9) Tryd.func12 rfl Tryd.ntmps12 rfl (env := [(0, .pointer (some ⟨g, 0, none⟩)), (1, .int .u8 (x : Int))]) rfl ?_
  refine WC.seq ?_
  refine WC.region ?_
  refine WL.ex rfl rfl rfl (Ex.asg rfl) ?_
  refine WL.nil ?_
  refine WX.next (?_)
  refine WC.seq ?_
  refine WC.region ?_
  refine WL.ex rfl rfl rfl (Ex.mv rfl) ?_
  refine WL.ex rfl rfl rfl (Ex.mv rfl) ?_
  refine WL.ex rfl rfl rfl (Ex.cvI Tryd.underlying5 Tryd.underlying33 rfl (by first | exact u64w_lt _ (by omega) | exact u64w _)) ?_
  refine WL.ac rfl rfl rfl (Ac.call rfl Tryd.func19 nm19 rfl (wnum_ok w g v l x 1 (M0.get (i := 0) rfl) (by omega) (by omega) hb)) ?_; rintro v5 w5 ⟨rfl, v', T5⟩
  have M5 := M0.turned (i := 0) rfl T5
  refine WL.ex rfl rfl rfl (Ex.asg rfl) ?_
  refine WL.nil ?_
  refine WX.next (?_)
  refine WC.ret ?_
  refine WX.ret1 rfl rfl ?_
  exact ⟨rfl, v', T5⟩

/- (*sponsion/pack.Writer).U64 -/
theorem wU64_ok (w : World) (g : Nat) (v : Value) (l : List UInt8) (x : Nat) (h : (wrR g v l).sat w) (hx : x < 18446744073709551616) (hb : l.length ≤ 35184372088832) :
    Gives Tryd.prog 13 #[.pointer (some ⟨g, 0, none⟩), .int .u64 (x : Int)] w fun u w' => u = .pointer (some ⟨g, 0, none⟩) ∧ ∃ v', Turn w w' (wrR g v l) (wrR g v' (l ++ be 8 x)) := by
  have M0 := Mem.begin h
  refine Gives.enter (n := 8) Tryd.func13 rfl Tryd.ntmps13 rfl (env := [(0, .pointer (some ⟨g, 0, none⟩)), (1, .int .u64 (x : Int))]) rfl ?_
  refine WC.seq ?_
  refine WC.region ?_
  refine WL.ex rfl rfl rfl (Ex.asg rfl) ?_
  refine WL.nil ?_
  refine WX.next (?_)
  refine WC.seq ?_
  refine WC.region ?_
  refine WL.ex rfl rfl rfl (Ex.mv rfl) ?_
  refine WL.ex rfl rfl rfl (Ex.mv rfl) ?_
  refine WL.ac rfl rfl rfl (Ac.call rfl Tryd.func19 nm19 rfl (wnum_ok w g v l x 8 (M0.get (i := 0) rfl) (by omega) (by omega) hb)) ?_; rintro v4 w4 ⟨rfl, v', T4⟩
  have M4 := M0.turned (i := 0) rfl T4
  refine WL.ex rfl rfl rfl (Ex.asg rfl) ?_
  refine WL.nil ?_
  refine WX.next (?_)
  refine WC.ret ?_
  refine WX.ret1 rfl rfl ?_
  exact ⟨rfl, v', T4⟩

/- (*sponsion/pack.Writer).Bytes -/
theorem wBytes_ok (w : World) (g : Nat) (v : Value) (l : List UInt8) (h : (wrR g v l).sat w) (hb : l.length ≤ 35184372088832) :
    Gives Tryd.prog 15 #[.pointer (some ⟨g, 0, none⟩)] w fun u w' => New w w' (row u 5 1 l.length (bytesV l)) := by
  obtain ⟨A, c, rfl⟩ := own_slice h.2.1
  have M0 := (Mem.begin h).open1
  refine Gives.enter (n := 8) Tryd.func15 rfl Tryd.ntmps15 rfl (env := [(0, .pointer (some ⟨g, 0, none⟩))]) rfl ?_
  refine WC.seq ?_
  refine WC.region ?_
  refine WL.ex rfl rfl rfl (Ex.asg rfl) ?_
  refine WL.nil ?_
  refine WX.next (?_)
  refine WC.seq ?_
  refine WC.region ?_
  refine WL.ex rfl rfl rfl (Ex.mv rfl) ?_
  refine WL.ex rfl rfl rfl (Ex.nilc rfl) ?_
  refine WL.ex rfl rfl rfl (Ex.fa fl50_0 rfl) ?_
  refine WL.ex rfl rfl rfl (Ex.load ty29 rfl (M0.cell (i := 0) rfl rfl)) ?_
  refine WL.ac rfl rfl rfl (Ac.call rfl Tryd.func24 nm24 rfl (clone_ok w A c l (M0.rdr (i := 1) rfl) (by omega))) ?_; rintro v6 w6 N6
  have M6 := M0.new N6
  refine WL.ex rfl rfl rfl (Ex.asg rfl) ?_
  refine WL.nil ?_
  refine WX.next (?_)
  refine WC.ret ?_
  refine WX.ret1 rfl rfl ?_
  exact N6

end Go.Proofs.YtnjbhhedaloghaaDoor
