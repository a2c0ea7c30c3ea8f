/- Walks, written by gen.py off the translation's own print: each says what the Go function comes to. -/
import Derived.Test.YtpngjgcbdaogmaaWf
set_option linter.unusedVariables false
set_option linter.unusedSimpArgs false
namespace Go.Proofs.Ytpngjgcbdaogmaa
open Go.Sx Go.RowKit
attribute [local irreducible] Ac Ex WL WC WX WP Gives

/-- A reader at block g: what is left, and the first error. -/
abbrev rdR (g : Nat) (D : List Nat) (s : RS) : Res := rbx g 111 D s.1 (.int .i64 s.2)

/-- What a number is read as. -/
def rInt (o : List UInt8) : List Nat := if o.length = 32 then ofB o else [0, 0, 0, 0]
theorem rInt_len (o : List UInt8) : (rInt o).length = 4 := by unfold rInt; split <;> simp [ofB]
theorem rInt_ok4 (o : List UInt8) : Int4 (rInt o) := by
  unfold rInt
  split
  · rename_i h; exact ofB_ok h
  · refine ⟨rfl, fun i => ?_⟩
    match i with
    | 0 => decide
    | 1 => decide
    | 2 => decide
    | 3 => decide
    | _ + 4 => simp

/- (*sponsion/pack.Reader).Fail -/
theorem rFail_ok (w : World) (g : Nat) (D : List Nat) (l : List UInt8) (e : Int) (x : Int) (h : (rdR g D (l, e)).sat w) :
    Gives Try.prog 37 #[.pointer (some ⟨g, 0, none⟩), .int .i64 x] w fun u w1 => Turn w w1 (rdR g D (l, e)) (rdR g D (rFail (l, e) x)) := by
  have M0 := Mem.begin h
  obtain ⟨A, c, hc, M0⟩ := M0.openR
  dsimp only at hc M0
  refine Gives.enter (n := 20) Try.func37 rfl Try.ntmps37 rfl (env := [(0, .pointer (some ⟨g, 0, none⟩)), (1, .int .i64 x)]) rfl ?_
  refine WC.seq ?_
  refine WC.region ?_
  refine WL.ex rfl rfl rfl (Ex.mv rfl) ?_
  refine WL.ex rfl rfl rfl (Ex.nilc rfl) ?_
  refine WL.ex rfl rfl rfl (Ex.fa fl111_1 rfl) ?_
  refine WL.ex rfl rfl rfl (Ex.load ty66 rfl (M0.cell (i := 0) rfl rfl)) ?_
  refine WL.ex rfl rfl rfl (Ex.eqI rfl rfl) ?_
  by_cases he : e = 0
  · rw [decide_eq_true he]
    refine WL.ex rfl rfl rfl (Ex.mv rfl) ?_
    refine WL.yes rfl rfl rfl rfl ?_
    refine WL.ex rfl rfl rfl (Ex.mv rfl) ?_
    refine WL.yes rfl rfl rfl rfl ?_
    refine WL.ex rfl rfl rfl (Ex.neI rfl rfl) ?_
    refine WL.ex rfl rfl rfl (Ex.pickT rfl rfl) ?_
    refine WL.nil ?_
    refine WX.next (?_)
    refine WC.cond rfl (fun hx => ?_) (fun hx => ?_)
    · have hx0 : x ≠ 0 := by simpa using hx
      refine WC.region ?_
      refine WL.ex rfl rfl rfl (Ex.mv rfl) ?_
      refine WL.ex rfl rfl rfl (Ex.mv rfl) ?_
      refine WL.ex rfl rfl rfl (Ex.mv rfl) ?_
      refine WL.ex rfl rfl rfl (Ex.nilc rfl) ?_
      refine WL.ex rfl rfl rfl (Ex.fa fl111_0 rfl) ?_
      refine WL.ac0 rfl rfl (Ac.st M0 ty25 rfl rfl rfl (i := 0) rfl (by simp)) ?_; rintro v15 w15 ⟨K15, M15⟩
      try dsimp only [List.set] at M15
      refine WL.ex rfl rfl rfl (Ex.nilc rfl) ?_
      refine WL.ex rfl rfl rfl (Ex.fa fl111_1 rfl) ?_
      refine WL.ac0 rfl rfl (Ac.st M15 ty66 rfl rfl rfl (i := 0) rfl (by simp)) ?_; rintro v18 w18 ⟨K18, M18⟩
      try dsimp only [List.set] at M18
      refine WL.nil ?_
      refine WX.end0 rfl ?_
      have er : rFail (l, e) x = ([], x) := by simp [rFail, he, hx0]
      rw [er]
      have Mv := M18.view (i := 1) rfl (r' := dat D none []) (fun h => ⟨Rd.nil _ _, (fun a ha => by cases ha), h.2.2⟩) (fun b hb => hb)
      exact (Mem.closeR (l := []) (c := 0) Mv (by simp)).toTurn
    · have hx0 : x = 0 := by simpa using hx
      refine WC.skip ?_
      refine WX.end0 rfl ?_
      have er : rFail (l, e) x = (l, e) := by simp [rFail, hx0]
      rw [er]
      exact (M0.closeR hc).toTurn
  · rw [decide_eq_false he]
    refine WL.ex rfl rfl rfl (Ex.mv rfl) ?_
    refine WL.no rfl rfl rfl rfl rfl rfl ?_
    refine WL.no rfl rfl rfl rfl rfl rfl ?_
    refine WL.ex rfl rfl rfl (Ex.pickF rfl rfl) ?_
    refine WL.nil ?_
    refine WX.next (?_)
    refine WC.no rfl ?_
    refine WC.skip ?_
    refine WX.end0 rfl ?_
    have er : rFail (l, e) x = (l, e) := by simp [rFail, he]
    rw [er]
    exact (M0.closeR hc).toTurn

/- (*sponsion/pack.Reader).take -/
theorem rTake_ok (w : World) (g : Nat) (D : List Nat) (l : List UInt8) (e : Int) (n : Nat) (h : (rdR g D (l, e)).sat w) :
    Gives Try.prog 65 #[.pointer (some ⟨g, 0, none⟩), .int .i64 (n : Int)] w fun u w1 => (∃ A c, u = .slice A (rTake (l, e) n).1.length c ∧ Rd w1 A (bytesV (rTake (l, e) n).1)) ∧ Turn w w1 (rdR g D (l, e)) (rdR g D (rTake (l, e) n).2) := by
  have M0 := Mem.begin h
  obtain ⟨A, c, hc, M0⟩ := M0.openR
  dsimp only at hc M0
  refine Gives.enter (n := 31) Try.func65 rfl Try.ntmps65 rfl (env := [(0, .pointer (some ⟨g, 0, none⟩)), (1, .int .i64 (n : Int))]) rfl ?_
  refine WC.seq ?_
  refine WC.region ?_
  refine WL.ex rfl rfl rfl (Ex.asg rfl) ?_
  refine WL.nil ?_
  refine WX.next (?_)
  refine WC.seq ?_
  refine WC.seq ?_
  refine WC.region ?_
  refine WL.ex rfl rfl rfl (Ex.mv rfl) ?_
  refine WL.ex rfl rfl rfl (Ex.mv rfl) ?_
  refine WL.ex rfl rfl rfl (Ex.nilc rfl) ?_
  refine WL.ex rfl rfl rfl (Ex.fa fl111_0 rfl) ?_
  refine WL.ex rfl rfl rfl (Ex.load ty25 rfl (M0.cell (i := 0) rfl rfl)) ?_
  refine WL.ex rfl rfl rfl (Ex.len Try.underlying25 rfl) ?_
  refine WL.ex rfl rfl rfl (Ex.gtr rfl rfl) ?_
  refine WL.nil ?_
  refine WX.next (?_)
  refine WC.cond_dec rfl (fun hn => ?_) (fun hn => ?_)
  · skip
    refine WC.seq ?_
    refine WC.region ?_
    refine WL.ex rfl rfl rfl (Ex.mv rfl) ?_
    have MC := M0.closeR hc
    refine WL.ac rfl rfl rfl (Ac.call rfl Try.func37 nm37 rfl (rFail_ok w _ _ _ _ 4 (MC.get (i := 0) rfl))) ?_; rintro v10 w10 T10
    have M10 := MC.turned (i := 0) rfl T10
    try dsimp only [List.set] at M10
    refine WL.nil ?_
    refine WX.next (?_)
    refine WC.seq ?_
    refine WC.region ?_
    refine WL.ex rfl rfl rfl (Ex.asg rfl) ?_
    refine WL.nil ?_
    refine WX.next (?_)
    refine WC.ret ?_
    refine WX.ret_then (?_)
    refine WX.ret1 rfl rfl ?_
    have er : rTake (l, e) n = ([], rFail (l, e) 4) := by simp [rTake]; omega
    rw [er]
    exact ⟨⟨none, 0, rfl, Rd.nil _ _⟩, M10.toTurn⟩
  · skip
    refine WC.skip ?_
    refine WX.next (?_)
    refine WC.seq ?_
    refine WC.region ?_
    refine WL.ex rfl rfl rfl (Ex.mv rfl) ?_
    refine WL.ex rfl rfl rfl (Ex.nilc rfl) ?_
    refine WL.ex rfl rfl rfl (Ex.fa fl111_0 rfl) ?_
    refine WL.ex rfl rfl rfl (Ex.load ty25 rfl (M0.cell (i := 0) rfl rfl)) ?_
    refine WL.ex rfl rfl rfl (Ex.mv rfl) ?_
    refine WL.ex rfl rfl rfl (Ex.slh (A := A) (l := l.length) (c := c) Try.underlying25 sz5 rfl rfl (by omega) (by omega)) ?_
    refine WL.ex rfl rfl rfl (Ex.asg rfl) ?_
    refine WL.nil ?_
    refine WX.next (?_)
    refine WC.seq ?_
    refine WC.region ?_
    refine WL.ex rfl rfl rfl (Ex.mv rfl) ?_
    refine WL.ex rfl rfl rfl (Ex.mv rfl) ?_
    refine WL.ex rfl rfl rfl (Ex.nilc rfl) ?_
    refine WL.ex rfl rfl rfl (Ex.fa fl111_0 rfl) ?_
    refine WL.ex rfl rfl rfl (Ex.load ty25 rfl (M0.cell (i := 0) rfl rfl)) ?_
    refine WL.ex rfl rfl rfl (Ex.mv rfl) ?_
    refine WL.ex rfl rfl rfl (Ex.sll (A := A) (l := l.length) (c := c) Try.underlying25 sz5 rfl rfl (by omega) (by omega)) ?_
    refine WL.ex rfl rfl rfl (Ex.nilc rfl) ?_
    refine WL.ex rfl rfl rfl (Ex.fa fl111_0 rfl) ?_
    refine WL.ac0 rfl rfl (Ac.st M0 ty25 rfl rfl rfl (i := 0) rfl (by simp)) ?_; rintro v28 w28 ⟨K28, M28⟩
    try dsimp only [List.set] at M28
    try simp only [Int.toNat_natCast] at M28
    refine WL.nil ?_
    refine WX.next (?_)
    refine WC.seq ?_
    refine WC.region ?_
    refine WL.ex rfl rfl rfl (Ex.mv rfl) ?_
    refine WL.ex rfl rfl rfl (Ex.asg rfl) ?_
    refine WL.nil ?_
    refine WX.next (?_)
    refine WC.ret ?_
    refine WX.ret1 rfl rfl ?_
    have er : rTake (l, e) n = (l.take n, (l.drop n, e)) := by simp [rTake]; omega
    rw [er]
    have hd : (dat D A l).sat w28 := M28.get (i := 1) rfl
    have Mv := M28.view (i := 1) rfl (r' := dat D (if c = n then A else A.map (·.add (n * 1))) (l.drop n)) (fun h => ⟨by
        have h1 := h.1.cut (k := n) (m := c) (sz := 1) (fun e => by simp; omega)
        have e2 : (bytesV l).drop (n * 1) = bytesV (l.drop n) := by simp [bytesV]
        rwa [e2] at h1, fun a ha hne => by
        have hl : l ≠ [] := fun e => hne (by rw [e]; simp)
        split at ha
        · exact h.2.1 a ha hl
        · cases hA : A with
          | none => rw [hA] at ha; cases ha
          | some a0 =>
            rw [hA] at ha
            obtain rfl := Option.some.inj ha
            rw [block_add]
            exact h.2.1 a0 hA hl, h.2.2⟩) (fun b hb => hb)
    try dsimp only [List.set] at Mv
    have hlen : (l.take n).length = n := by simp; omega
    have e3 : (bytesV l).take n = bytesV (l.take n) := by simp [bytesV]
    refine ⟨⟨A, c, by rw [hlen]; simp, by rw [← e3]; exact hd.1.take n⟩, ?_⟩
    have e4 : l.length - n = (l.drop n).length := by simp
    rw [e4] at Mv
    exact (Mem.closeR Mv (by simp; omega)).toTurn

/- (*sponsion/pack.Reader).num -/
theorem rNum_ok (w : World) (g : Nat) (D : List Nat) (l : List UInt8) (e : Int) (n : Nat) (hn : n ≤ 8) (h : (rdR g D (l, e)).sat w) :
    Gives Try.prog 63 #[.pointer (some ⟨g, 0, none⟩), .int .i64 (n : Int)] w fun u w1 => u = .int .u64 (beVal (rTake (l, e) n).1 : Int) ∧ Turn w w1 (rdR g D (l, e)) (rdR g D (rTake (l, e) n).2) := by
  have M0 := Mem.begin h
  refine Gives.enter (n := 23) Try.func63 rfl Try.ntmps63 rfl (env := [(0, .pointer (some ⟨g, 0, none⟩)), (1, .int .i64 (n : Int))]) rfl ?_
  refine WC.seq ?_
  refine WC.region ?_
  refine WL.ex rfl rfl rfl (Ex.asg rfl) ?_
  refine WL.nil ?_
  refine WX.next (?_)
  refine WC.seq ?_
  refine WC.region ?_
  refine WL.ex rfl rfl rfl (Ex.asg rfl) ?_
  refine WL.nil ?_
  refine WX.next (?_)
  refine WC.seq ?_
  refine WC.seq ?_
  refine WC.region ?_
  refine WL.ex rfl rfl rfl (Ex.mv rfl) ?_
  refine WL.ex rfl rfl rfl (Ex.mv rfl) ?_
  refine WL.ac rfl rfl rfl (Ac.call rfl Try.func65 nm65 rfl (rTake_ok w _ _ _ _ n (M0.get (i := 0) rfl))) ?_; rintro v5 w5 ⟨⟨A, c, rfl, hR⟩, T5⟩
  have M5 := M0.turned (i := 0) rfl T5
  try dsimp only [List.set] at M5
  obtain ⟨o, ho⟩ : ∃ o, o = (rTake (l, e) n).1 := ⟨_, rfl⟩
  have hol : o.length ≤ n := by rw [ho]; exact rTake_len _ _
  rw [← ho] at hR ⊢
  refine WL.ex rfl rfl rfl (Ex.len Try.underlying25 rfl) ?_
  refine WL.ex rfl rfl rfl (Ex.mv rfl) ?_
  refine WL.nil ?_
  refine WX.next (?_)
  refine WC.block ?_
  refine WC.loop (σ := Nat) (fun i => [(5, .int .u64 ((beVal (o.take i) : Nat) : Int)), (10, .slice A o.length c), (11, .int .i64 (o.length : Int)), (12, .int .i64 (i : Int))]) (fun i wr => i ≤ o.length ∧ wr = w5) (fun i => o.length - i) (0) ?_ (.cons rfl (.cons rfl (.cons rfl (.cons rfl (.nil))))) ?_
  · exact ⟨by omega, rfl⟩
  rintro i _ ⟨hi, rfl⟩
  refine WC.seq ?_
  refine WC.region ?_
  refine WL.ex rfl rfl rfl (Ex.lss rfl rfl) ?_
  refine WL.nil ?_
  refine WX.next (?_)
  refine WC.seq ?_
  refine WC.cond_dec rfl (fun hc13 => ?_) (fun hc13 => ?_)
  · obtain ⟨b, hb⟩ : ∃ b, o[i]? = some b := ⟨_, List.getElem?_eq_getElem (by omega)⟩
    have hb8 := b.toNat_lt
    have hv : beVal (o.take i) < 256 ^ 7 := beVal_lt_of (by simp; omega)
    obtain ⟨b1, o1, hA, _⟩ := hR.plain (by simp; omega)
    subst hA
    refine WC.skip ?_
    refine WX.next (?_)
    refine WC.seq ?_
    refine WC.block ?_
    refine WC.seq ?_
    refine WC.region ?_
    refine WL.ex rfl rfl rfl (Ex.ia Try.underlying25 sz5 rfl rfl ⟨by omega, by omega⟩) ?_
    refine WL.ex rfl rfl rfl (Ex.load ty5 rfl (Rd.at1 (u := byteV b) hR (j := (i : Int).toNat * 1) (by simp [bytesV_get hb]))) ?_
    refine WL.ex rfl rfl rfl (Ex.asg rfl) ?_
    refine WL.nil ?_
    refine WX.next (?_)
    refine WC.region ?_
    refine WL.ex rfl rfl rfl (Ex.mv rfl) ?_
    refine WL.ex rfl rfl rfl (Ex.shl rfl rfl (m := 8) rfl (shlN (beVal (o.take i)) 8 (by omega) (by omega))) ?_
    refine WL.ex rfl rfl rfl (Ex.mv rfl) ?_
    refine WL.ex rfl rfl rfl (Ex.cvI Try.underlying5 Try.underlying33 rfl (u64w_lt _ (by omega))) ?_
    refine WL.ex rfl rfl rfl (Ex.bor rfl rfl (c := ((beVal (o.take (i + 1)) : Nat) : Int)) (orN (beVal (o.take i) * 2 ^ 8) b.toNat (by omega) (by omega) (by rw [or_add hb8, take_snoc hb, beVal_snoc]))) ?_
    refine WL.ex rfl rfl rfl (Ex.asg rfl) ?_
    refine WL.nil ?_
    refine WX.normal_block (WX.next (?_))
    refine WC.region ?_
    refine WL.ex rfl rfl rfl (Ex.add rfl rfl (i64w _ (by omega) (by omega))) ?_
    refine WL.ex rfl rfl rfl (Ex.mv rfl) ?_
    refine WL.nil ?_
    refine WX.again (i + 1) ?_ ?_ (.cons rfl (.cons rfl (.cons rfl (.cons rfl (.nil)))))
    · (try dsimp only); omega
    · exact ⟨by omega, rfl⟩
  · obtain rfl : i = o.length := by omega
    refine WC.exit ?_
    refine WX.exit_then (WX.exit_then (WX.exit_block (WX.next (?_))))
    refine WC.seq ?_
    refine WC.region ?_
    refine WL.ex rfl rfl rfl (Ex.mv rfl) ?_
    refine WL.ex rfl rfl rfl (Ex.asg rfl) ?_
    refine WL.nil ?_
    refine WX.next (?_)
    refine WC.ret ?_
    refine WX.ret1 rfl rfl ?_
    rw [List.take_length, ho]
    exact ⟨rfl, T5⟩

/- (*sponsion/pack.Reader).U8 -/
theorem rU8_ok (w : World) (g : Nat) (D : List Nat) (l : List UInt8) (e : Int) (h : (rdR g D (l, e)).sat w) :
    Gives Try.prog 29 #[.pointer (some ⟨g, 0, none⟩)] w fun u w1 => u = .int .u8 (beVal (rTake (l, e) 1).1 : Int) ∧ Turn w w1 (rdR g D (l, e)) (rdR g D (rTake (l, e) 1).2) := by
  have M0 := Mem.begin h
  refine Gives.enter (n := 6) Try.func29 rfl Try.ntmps29 rfl (env := [(0, .pointer (some ⟨g, 0, none⟩))]) rfl ?_
  refine WC.seq ?_
  refine WC.region ?_
  refine WL.ex rfl rfl rfl (Ex.asg rfl) ?_
  refine WL.nil ?_
  refine WX.next (?_)
  refine WC.seq ?_
  refine WC.region ?_
  refine WL.ex rfl rfl rfl (Ex.mv rfl) ?_
  refine WL.ac rfl rfl rfl (Ac.call rfl Try.func63 nm63 rfl (rNum_ok w _ _ _ _ 1 (by decide) (M0.get (i := 0) rfl))) ?_; rintro v3 w3 ⟨rfl, T3⟩
  refine WL.ex rfl rfl rfl (Ex.cvI Try.underlying33 Try.underlying5 rfl (u8w_lt _ (beVal_lt_of (rTake_len _ _)))) ?_
  refine WL.ex rfl rfl rfl (Ex.asg rfl) ?_
  refine WL.nil ?_
  refine WX.next (?_)
  refine WC.ret ?_
  refine WX.ret1 rfl rfl ?_
  exact ⟨rfl, T3⟩

/- (*sponsion/pack.Reader).U32 -/
theorem rU32_ok (w : World) (g : Nat) (D : List Nat) (l : List UInt8) (e : Int) (h : (rdR g D (l, e)).sat w) :
    Gives Try.prog 31 #[.pointer (some ⟨g, 0, none⟩)] w fun u w1 => u = .int .u32 (beVal (rTake (l, e) 4).1 : Int) ∧ Turn w w1 (rdR g D (l, e)) (rdR g D (rTake (l, e) 4).2) := by
  have M0 := Mem.begin h
  refine Gives.enter (n := 6) Try.func31 rfl Try.ntmps31 rfl (env := [(0, .pointer (some ⟨g, 0, none⟩))]) rfl ?_
  refine WC.seq ?_
  refine WC.region ?_
  refine WL.ex rfl rfl rfl (Ex.asg rfl) ?_
  refine WL.nil ?_
  refine WX.next (?_)
  refine WC.seq ?_
  refine WC.region ?_
  refine WL.ex rfl rfl rfl (Ex.mv rfl) ?_
  refine WL.ac rfl rfl rfl (Ac.call rfl Try.func63 nm63 rfl (rNum_ok w _ _ _ _ 4 (by decide) (M0.get (i := 0) rfl))) ?_; rintro v3 w3 ⟨rfl, T3⟩
  refine WL.ex rfl rfl rfl (Ex.cvI Try.underlying33 Try.underlying43 rfl (u32w_lt _ (beVal_lt_of (rTake_len _ _)))) ?_
  refine WL.ex rfl rfl rfl (Ex.asg rfl) ?_
  refine WL.nil ?_
  refine WX.next (?_)
  refine WC.ret ?_
  refine WX.ret1 rfl rfl ?_
  exact ⟨rfl, T3⟩

/- (*sponsion/pack.Reader).U64 -/
theorem rU64_ok (w : World) (g : Nat) (D : List Nat) (l : List UInt8) (e : Int) (h : (rdR g D (l, e)).sat w) :
    Gives Try.prog 32 #[.pointer (some ⟨g, 0, none⟩)] w fun u w1 => u = .int .u64 (beVal (rTake (l, e) 8).1 : Int) ∧ Turn w w1 (rdR g D (l, e)) (rdR g D (rTake (l, e) 8).2) := by
  have M0 := Mem.begin h
  refine Gives.enter (n := 5) Try.func32 rfl Try.ntmps32 rfl (env := [(0, .pointer (some ⟨g, 0, none⟩))]) rfl ?_
  refine WC.seq ?_
  refine WC.region ?_
  refine WL.ex rfl rfl rfl (Ex.asg rfl) ?_
  refine WL.nil ?_
  refine WX.next (?_)
  refine WC.seq ?_
  refine WC.region ?_
  refine WL.ex rfl rfl rfl (Ex.mv rfl) ?_
  refine WL.ac rfl rfl rfl (Ac.call rfl Try.func63 nm63 rfl (rNum_ok w _ _ _ _ 8 (by decide) (M0.get (i := 0) rfl))) ?_; rintro v3 w3 ⟨rfl, T3⟩
  refine WL.ex rfl rfl rfl (Ex.asg rfl) ?_
  refine WL.nil ?_
  refine WX.next (?_)
  refine WC.ret ?_
  refine WX.ret1 rfl rfl ?_
  exact ⟨rfl, T3⟩

/- (*sponsion/pack.Reader).Int -/
theorem rInt_ok (w : World) (g : Nat) (D : List Nat) (l : List UInt8) (e : Int) (h : (rdR g D (l, e)).sat w) :
    Gives Try.prog 33 #[.pointer (some ⟨g, 0, none⟩)] w fun u w1 => u = .agg (intV (rInt (rTake (l, e) 32).1)).toArray ∧ Turn w w1 (rdR g D (l, e)) (rdR g D (rTake (l, e) 32).2) := by
  have M0 := Mem.begin h
  refine Gives.enter (n := 12) Try.func33 rfl Try.ntmps33 rfl (env := [(0, .pointer (some ⟨g, 0, none⟩))]) rfl ?_
  refine WC.seq ?_
  refine WC.region ?_
  refine WL.ac rfl rfl rfl (Ac.alloc M0 (l := intV [0, 0, 0, 0]) (by kernel_rfl)) ?_; rintro v1 w1 ⟨g1, rfl, hg1, K1, M1⟩
  refine WL.nil ?_
  refine WX.next (?_)
  refine WC.seq ?_
  refine WC.region ?_
  refine WL.ex rfl rfl rfl (Ex.mv rfl) ?_
  refine WL.ac rfl rfl rfl (Ac.call rfl Try.func65 nm65 rfl (rTake_ok w1 _ _ _ _ 32 (M1.get (i := 1) rfl))) ?_; rintro v3 w3 ⟨⟨A, c, rfl, hR⟩, T3⟩
  have M3 := M1.turned (i := 1) rfl T3
  try dsimp only [List.set] at M3
  refine WL.ac rfl rfl rfl (Ac.call rfl Try.func64 nm64 rfl (hRead_ok w3 _ _ _ hR)) ?_; rintro v4 w4 ⟨rfl, K4⟩
  have M4 := M3.step K4
  refine WL.ex rfl rfl rfl (Ex.mv rfl) ?_
  refine WL.ex rfl rfl rfl (Ex.ext rfl rfl) ?_
  refine WL.ex rfl rfl rfl (Ex.ext rfl rfl) ?_
  refine WL.ac rfl rfl rfl (Ac.alloc M4 (l := intV [0, 0, 0, 0]) (by kernel_rfl)) ?_; rintro v8 w8 ⟨g2, rfl, hg8, K8, M8⟩
  refine WL.ac0 rfl rfl (Ac.stA M8 ty35 rfl rfl (vs := intV (rInt (rTake (l, e) 32).1)) rfl (by simp [rInt_len]) (intV_one _) (i := 0) rfl (by simp [rInt_len])) ?_; rintro v9 w9 ⟨K9, M9⟩
  try dsimp only [List.set] at M9
  rw [splice_all _ _ (by simp [rInt_len])] at M9
  refine WL.ex rfl rfl rfl (Ex.asg rfl) ?_
  refine WL.nil ?_
  refine WX.next (?_)
  refine WC.seq ?_
  refine WC.region ?_
  refine WL.ex rfl rfl rfl (Ex.loadA ty35 rfl (l := intV (rInt (rTake (l, e) 32).1)) (by simp [rInt_len]) (M9.rdw (i := 0) rfl)) ?_
  refine WL.ac0 rfl rfl (Ac.stA M9 ty35 rfl rfl (vs := intV (rInt (rTake (l, e) 32).1)) rfl (by simp [rInt_len]) (intV_one _) (i := 1) rfl (by simp [rInt_len])) ?_; rintro v12 w12 ⟨K12, M12⟩
  try dsimp only [List.set] at M12
  rw [splice_all _ _ (by simp [rInt_len])] at M12
  refine WL.nil ?_
  refine WX.next (?_)
  refine WC.ret ?_
  refine WX.retc rfl rfl (run_loadVarA ty35 (by simp [rInt_len]) (M12.rdw (i := 1) rfl)) ?_
  exact ⟨rfl, (Mem.sub M12 (.cons _ (.cons _ (.refl _)))).toTurn⟩

/- (*sponsion/pack.Reader).Hash -/
theorem rHash_ok (w : World) (g : Nat) (D : List Nat) (l : List UInt8) (e : Int) (h : (rdR g D (l, e)).sat w) :
    Gives Try.prog 35 #[.pointer (some ⟨g, 0, none⟩)] w fun u w1 => u = .agg (bytesV (hash32 (rTake (l, e) 32).1)).toArray ∧ Turn w w1 (rdR g D (l, e)) (rdR g D (rTake (l, e) 32).2) := by
  have M0 := Mem.begin h
  refine Gives.enter (n := 9) Try.func35 rfl Try.ntmps35 rfl (env := [(0, .pointer (some ⟨g, 0, none⟩))]) rfl ?_
  refine WC.seq ?_
  refine WC.region ?_
  refine WL.ac rfl rfl rfl (Ac.alloc M0 (l := bytesV (List.replicate 32 0)) (by kernel_rfl)) ?_; rintro v1 w1 ⟨g1, rfl, hg1, K1, M1⟩
  refine WL.nil ?_
  refine WX.next (?_)
  refine WC.seq ?_
  refine WC.region ?_
  refine WL.ac rfl rfl rfl (Ac.alloc M1 (l := bytesV (List.replicate 32 0)) (by kernel_rfl)) ?_; rintro v2 w2 ⟨g2, rfl, hg2, K2, M2⟩
  refine WL.nil ?_
  refine WX.next (?_)
  refine WC.seq ?_
  refine WC.draw (Keep nof w2.drew) [2, 3] (.one 0 0 (.one 1 0 (.one 2 2 (.one 3 2 .nil)))) mixed (by kernel_rfl) (by kernel_rfl) (by kernel_rfl) (HQ.then_ HQ.body) ?_
  obtain ⟨w3, hw3⟩ : ∃ v, v = w2.drew := ⟨_, rfl⟩
  have D3 : Keep nof w2 w3 := by rw [hw3]; exact Keep.drew _ _
  have M3 := M2.step D3
  rw [← hw3]; clear hw3
  refine WP.p rfl rfl rfl rfl (fun _ => Ex.slA Try.underlying37 sz5 rfl) ?_
  refine WP.p rfl rfl rfl rfl (fun _ => Ex.mv rfl) ?_
  refine WP.a rfl rfl rfl rfl (Ac.call rfl Try.func65 nm65 rfl (rTake_ok w3 _ _ _ _ 32 (M3.get (i := 2) rfl))) ?_; rintro v6 w6 ⟨⟨A, c, rfl, hR⟩, T6⟩; refine .inl ⟨rfl, Keep nof w6, ?_⟩
  have M6 := M3.turned (i := 2) rfl T6
  try dsimp only [List.set] at M6
  have hol := rTake_len (l, e) 32
  refine WP.a rfl rfl rfl rfl (Ac.cp M6 (cs := bytesV (rTake (l, e) 32).1) Try.underlying25 sz5 rfl rfl (i := 0) rfl (by rw [bytesV_length]; exact (Nat.min_eq_left hol).symm) hR (by simp; omega) (bytesV_one _)) ?_; rintro v7 w7 ⟨rfl, K7, M7⟩; refine .inl ⟨rfl, Keep nof w7, ?_⟩
  try dsimp only [List.set] at M7
  rw [splice_hash hol] at M7
  refine WP.nil ?_
  refine WX.next (?_)
  refine WC.seq ?_
  refine WC.region ?_
  refine WL.ex rfl rfl rfl (Ex.loadA ty37 rfl (l := bytesV (hash32 (rTake (l, e) 32).1)) (by simp [hash32_len hol]) (M7.rdw (i := 0) rfl)) ?_
  refine WL.ac0 rfl rfl (Ac.stA M7 ty37 rfl rfl (vs := bytesV (hash32 (rTake (l, e) 32).1)) rfl (by simp [hash32_len hol]) (bytesV_one _) (i := 1) rfl (by simp [hash32_len hol])) ?_; rintro v9 w9 ⟨K9, M9⟩
  try dsimp only [List.set] at M9
  rw [splice_all _ _ (by simp [hash32_len hol])] at M9
  refine WL.nil ?_
  refine WX.next (?_)
  refine WC.ret ?_
  refine WX.retc rfl rfl (run_loadVarA ty37 (by simp [hash32_len hol]) (M9.rdw (i := 1) rfl)) ?_
  exact ⟨rfl, (Mem.sub M9 (.cons _ (.cons _ (.refl _)))).toTurn⟩

/- (*sponsion/pack.Reader).Raw -/
theorem rRaw_ok (w : World) (g : Nat) (D : List Nat) (l : List UInt8) (e : Int) (n : Int) (hb : l.length ≤ 70368744177664) (h : (rdR g D (l, e)).sat w) :
    Gives Try.prog 36 #[.pointer (some ⟨g, 0, none⟩), .int .i64 n] w fun u w1 => (∃ w2, Turn w w2 (rdR g D (l, e)) (rdR g D (rTake (l, e) n.toNat).2) ∧ New w2 w1 (row u 5 1 (rTake (l, e) n.toNat).1.length (bytesV (rTake (l, e) n.toNat).1))) := by
  have M0 := Mem.begin h
  refine Gives.enter (n := 10) Try.func36 rfl Try.ntmps36 rfl (env := [(0, .pointer (some ⟨g, 0, none⟩)), (1, .int .i64 n)]) rfl ?_
  refine WC.seq ?_
  refine WC.region ?_
  refine WL.ex rfl rfl rfl (Ex.asg rfl) ?_
  refine WL.nil ?_
  refine WX.next (?_)
  refine WC.seq ?_
  refine WC.region ?_
  refine WL.ex rfl rfl rfl (Ex.mv rfl) ?_
  refine WL.ex rfl rfl rfl (Ex.mv rfl) ?_
  refine WL.ex rfl rfl rfl (Ex.max2 rfl rfl (c := ((n.toNat : Nat) : Int)) (by split <;> omega)) ?_
  refine WL.ac rfl rfl rfl (Ac.call rfl Try.func65 nm65 rfl (rTake_ok w _ _ _ _ n.toNat (M0.get (i := 0) rfl))) ?_; rintro v5 w5 ⟨⟨A, c, rfl, hR⟩, T5⟩
  have hol : (rTake (l, e) n.toNat).1.length ≤ l.length := by unfold rTake; split <;> simp <;> omega
  refine WL.ac rfl rfl rfl (Ac.call rfl Try.func62 nm62 rfl (clone_ok w5 _ _ _ hR (by omega))) ?_; rintro v6 w6 N6
  refine WL.ex rfl rfl rfl (Ex.asg rfl) ?_
  refine WL.nil ?_
  refine WX.next (?_)
  refine WC.ret ?_
  refine WX.ret1 rfl rfl ?_
  exact ⟨_, T5, N6⟩

/- (*sponsion/pack.Reader).Left -/
theorem rLeft_ok (w : World) (g : Nat) (D : List Nat) (l : List UInt8) (e : Int) (h : (rdR g D (l, e)).sat w) :
    Gives Try.prog 38 #[.pointer (some ⟨g, 0, none⟩)] w fun u w1 => u = .int .i64 (l.length : Int) ∧ w1 = w := by
  have M0 := Mem.begin h
  obtain ⟨A, c, hc, M0⟩ := M0.openR
  dsimp only at hc M0
  refine Gives.enter (n := 8) Try.func38 rfl Try.ntmps38 rfl (env := [(0, .pointer (some ⟨g, 0, none⟩))]) rfl ?_
  refine WC.seq ?_
  refine WC.region ?_
  refine WL.ex rfl rfl rfl (Ex.asg rfl) ?_
  refine WL.nil ?_
  refine WX.next (?_)
  refine WC.seq ?_
  refine WC.region ?_
  refine WL.ex rfl rfl rfl (Ex.mv rfl) ?_
  refine WL.ex rfl rfl rfl (Ex.nilc rfl) ?_
  refine WL.ex rfl rfl rfl (Ex.fa fl111_0 rfl) ?_
  refine WL.ex rfl rfl rfl (Ex.load ty25 rfl (M0.cell (i := 0) rfl rfl)) ?_
  refine WL.ex rfl rfl rfl (Ex.len Try.underlying25 rfl) ?_
  refine WL.ex rfl rfl rfl (Ex.asg rfl) ?_
  refine WL.nil ?_
  refine WX.next (?_)
  refine WC.ret ?_
  refine WX.ret1 rfl rfl ?_
  exact ⟨rfl, rfl⟩

/- (*sponsion/pack.Reader).Err -/
theorem rErr_ok (w : World) (g : Nat) (D : List Nat) (l : List UInt8) (e : Int) (h : (rdR g D (l, e)).sat w) :
    Gives Try.prog 39 #[.pointer (some ⟨g, 0, none⟩)] w fun u w1 => u = .int .i64 e ∧ w1 = w := by
  have M0 := Mem.begin h
  obtain ⟨A, c, hc, M0⟩ := M0.openR
  dsimp only at hc M0
  refine Gives.enter (n := 7) Try.func39 rfl Try.ntmps39 rfl (env := [(0, .pointer (some ⟨g, 0, none⟩))]) rfl ?_
  refine WC.seq ?_
  refine WC.region ?_
  refine WL.ex rfl rfl rfl (Ex.asg rfl) ?_
  refine WL.nil ?_
  refine WX.next (?_)
  refine WC.seq ?_
  refine WC.region ?_
  refine WL.ex rfl rfl rfl (Ex.mv rfl) ?_
  refine WL.ex rfl rfl rfl (Ex.nilc rfl) ?_
  refine WL.ex rfl rfl rfl (Ex.fa fl111_1 rfl) ?_
  refine WL.ex rfl rfl rfl (Ex.load ty66 rfl (M0.cell (i := 0) rfl rfl)) ?_
  refine WL.ex rfl rfl rfl (Ex.asg rfl) ?_
  refine WL.nil ?_
  refine WX.next (?_)
  refine WC.ret ?_
  refine WX.ret1 rfl rfl ?_
  exact ⟨rfl, rfl⟩

/- (*sponsion/pack.Reader).End -/
theorem rEnd_ok (w : World) (g : Nat) (D : List Nat) (l : List UInt8) (e : Int) (h : (rdR g D (l, e)).sat w) :
    Gives Try.prog 40 #[.pointer (some ⟨g, 0, none⟩)] w fun u w1 => u = .int .i64 (if e = 0 ∧ l ≠ [] then 5 else e) ∧ w1 = w := by
  have M0 := Mem.begin h
  obtain ⟨A, c, hc, M0⟩ := M0.openR
  dsimp only at hc M0
  refine Gives.enter (n := 20) Try.func40 rfl Try.ntmps40 rfl (env := [(0, .pointer (some ⟨g, 0, none⟩))]) rfl ?_
  refine WC.seq ?_
  refine WC.region ?_
  refine WL.ex rfl rfl rfl (Ex.asg rfl) ?_
  refine WL.nil ?_
  refine WX.next (?_)
  refine WC.seq ?_
  refine WC.seq ?_
  refine WC.region ?_
  refine WL.ex rfl rfl rfl (Ex.mv rfl) ?_
  refine WL.ex rfl rfl rfl (Ex.nilc rfl) ?_
  refine WL.ex rfl rfl rfl (Ex.fa fl111_1 rfl) ?_
  refine WL.ex rfl rfl rfl (Ex.load ty66 rfl (M0.cell (i := 0) rfl rfl)) ?_
  refine WL.ex rfl rfl rfl (Ex.eqI rfl rfl) ?_
  by_cases he : e = 0
  · rw [decide_eq_true he]
    refine WL.ex rfl rfl rfl (Ex.mv rfl) ?_
    refine WL.yes rfl rfl rfl rfl ?_
    refine WL.ex rfl rfl rfl (Ex.mv rfl) ?_
    refine WL.yes rfl rfl rfl rfl ?_
    refine WL.ex rfl rfl rfl (Ex.nilc rfl) ?_
    refine WL.yes rfl rfl rfl rfl ?_
    refine WL.ex rfl rfl rfl (Ex.fa fl111_0 rfl) ?_
    refine WL.yes rfl rfl rfl rfl ?_
    refine WL.ex rfl rfl rfl (Ex.load ty25 rfl (M0.cell (i := 0) rfl rfl)) ?_
    refine WL.yes rfl rfl rfl rfl ?_
    refine WL.ex rfl rfl rfl (Ex.len Try.underlying25 rfl) ?_
    refine WL.yes rfl rfl rfl rfl ?_
    refine WL.ex rfl rfl rfl (Ex.gtr rfl rfl) ?_
    refine WL.ex rfl rfl rfl (Ex.pickT rfl rfl) ?_
    refine WL.nil ?_
    refine WX.next (?_)
    refine WC.cond_dec rfl (fun hl => ?_) (fun hl => ?_)
    · skip
      refine WC.seq ?_
      refine WC.region ?_
      refine WL.ex rfl rfl rfl (Ex.asg rfl) ?_
      refine WL.nil ?_
      refine WX.next (?_)
      refine WC.ret ?_
      refine WX.ret_then (?_)
      refine WX.ret1 rfl rfl ?_
      exact ⟨by rw [if_pos ⟨he, fun h => by simp [h] at hl⟩], rfl⟩
    · skip
      refine WC.skip ?_
      refine WX.next (?_)
      refine WC.seq ?_
      refine WC.region ?_
      refine WL.ex rfl rfl rfl (Ex.mv rfl) ?_
      refine WL.ex rfl rfl rfl (Ex.nilc rfl) ?_
      refine WL.ex rfl rfl rfl (Ex.fa fl111_1 rfl) ?_
      refine WL.ex rfl rfl rfl (Ex.load ty66 rfl (M0.cell (i := 0) rfl rfl)) ?_
      refine WL.ex rfl rfl rfl (Ex.asg rfl) ?_
      refine WL.nil ?_
      refine WX.next (?_)
      refine WC.ret ?_
      refine WX.ret1 rfl rfl ?_
      exact ⟨by rw [if_neg (fun h => hl (by have := List.length_pos_iff.2 h.2; omega))], rfl⟩
  · rw [decide_eq_false he]
    refine WL.ex rfl rfl rfl (Ex.mv rfl) ?_
    refine WL.no rfl rfl rfl rfl rfl rfl ?_
    refine WL.no rfl rfl rfl rfl rfl rfl ?_
    refine WL.no rfl rfl rfl rfl rfl rfl ?_
    refine WL.no rfl rfl rfl rfl rfl rfl ?_
    refine WL.no rfl rfl rfl rfl rfl rfl ?_
    refine WL.no rfl rfl rfl rfl rfl rfl ?_
    refine WL.ex rfl rfl rfl (Ex.pickF rfl rfl) ?_
    refine WL.nil ?_
    refine WX.next (?_)
    refine WC.no rfl ?_
    refine WC.skip ?_
    refine WX.next (?_)
    refine WC.seq ?_
    refine WC.region ?_
    refine WL.ex rfl rfl rfl (Ex.mv rfl) ?_
    refine WL.ex rfl rfl rfl (Ex.nilc rfl) ?_
    refine WL.ex rfl rfl rfl (Ex.fa fl111_1 rfl) ?_
    refine WL.ex rfl rfl rfl (Ex.load ty66 rfl (M0.cell (i := 0) rfl rfl)) ?_
    refine WL.ex rfl rfl rfl (Ex.asg rfl) ?_
    refine WL.nil ?_
    refine WX.next (?_)
    refine WC.ret ?_
    refine WX.ret1 rfl rfl ?_
    exact ⟨by rw [if_neg (fun h => he h.1)], rfl⟩

/- sponsion/pack.Of -/
theorem of_ok (w : World) (A : Option Addr) (c : Nat) (l : List UInt8) (hr : Rd w A (bytesV l)) (hb : l.length ≤ 70368744177664) :
    Gives Try.prog 27 #[.slice A l.length c] w fun u w1 => ∃ g D, u = .pointer (some ⟨g, 0, none⟩) ∧ New w w1 (rdR g D (l, 0)) := by
  have M0 := Mem.start w nof
  refine Gives.enter (n := 7) Try.func27 rfl Try.ntmps27 rfl (env := [(0, .slice A l.length c)]) rfl ?_
  refine WC.seq ?_
  refine WC.region ?_
  refine WL.ex rfl rfl rfl (Ex.asg rfl) ?_
  refine WL.nil ?_
  refine WX.next (?_)
  refine WC.seq ?_
  refine WC.region ?_
  refine WL.ex rfl rfl rfl (Ex.mv rfl) ?_
  refine WL.ac rfl rfl rfl (Ac.call rfl Try.func62 nm62 rfl (clone_ok w _ _ _ hr hb)) ?_; rintro v3 w3 N3
  have M3 := M0.new N3
  obtain ⟨B, d, rfl⟩ := own_slice (M3.get (i := 0) rfl)
  have hcd := (dat_of_row (M3.get (i := 0) rfl)).2.2
  replace M3 := M3.view (i := 0) rfl (r' := dat _ B l) (fun h => (dat_of_row h).1) (fun b hb => hb)
  try dsimp only [List.set] at M3
  refine WL.ex rfl rfl rfl (Ex.bld bd111 (parts := [(0, .tmp 4)]) rfl rfl rfl rfl) ?_
  refine WL.ac rfl rfl rfl (Ac.box M3 (l := [.slice B l.length d, .int .i64 0]) rfl rfl) ?_; rintro v5 w5 ⟨g, rfl, hg5, K5, M5⟩
  replace M5 := M5.closeR hcd
  refine WL.ex rfl rfl rfl (Ex.asg rfl) ?_
  refine WL.nil ?_
  refine WX.next (?_)
  refine WC.ret ?_
  refine WX.ret1 rfl rfl ?_
  exact ⟨g, _, rfl, M5.toNew⟩

end Go.Proofs.Ytpngjgcbdaogmaa
