/- Walks, written by gen.py off the translation's own print: each says what the Go function comes to. -/
import Derived.Test.YtpngjgcbdaogmaaWh
set_option linter.unusedVariables false
set_option linter.unusedSimpArgs false
namespace Go.Proofs.Ytpngjgcbdaogmaa
open Go.Sx Go.RowKit
attribute [local irreducible] Ac Ex WL WC WX WP Gives

/-- How many bytes are asked for. -/
def sz (k : Nat) : Nat := if k = 0 then 1 else if k = 1 then 4 else if k = 2 then 8 else 32
/-- What an item asks: the answer, and the reader behind it. -/
def ask (s : RS) (p : Item) : List UInt8 × RS := if p.k % 7 < 5 then rTake s (sz (p.k % 7)) else if p.k % 7 = 5 then rTake s p.n.toNat else ([], rFail s (bits .and .i64 p.e 15))
def RInv (s : RS) : Prop := (s.2 ≠ 0 → s.1 = []) ∧ s.1.length ≤ 500
theorem fail_inv {s : RS} {x : Int} (h : RInv s) : RInv (rFail s x) := by
  unfold rFail
  split
  · exact ⟨fun _ => rfl, by simp⟩
  · exact h
theorem take_inv {s : RS} {n : Nat} (h : RInv s) : RInv (rTake s n).2 := by
  unfold rTake
  split
  · exact fail_inv h
  · exact ⟨fun h2 => by simp [h.1 h2], by have := h.2; simp; omega⟩
theorem ask_inv {s : RS} {p : Item} (h : RInv s) : RInv (ask s p).2 := by
  unfold ask
  split
  · exact take_inv h
  · split
    · exact take_inv h
    · exact fail_inv h
theorem ask_lt {s : RS} {p : Item} (h : p.k % 7 < 5) : ask s p = rTake s (sz (p.k % 7)) := by rw [ask, if_pos h]
theorem ask_5 {s : RS} {p : Item} (h : p.k % 7 = 5) : ask s p = rTake s p.n.toNat := by rw [ask, if_neg (by omega), if_pos h]
theorem ask_6 {s : RS} {p : Item} (h : p.k % 7 = 6) : ask s p = ([], rFail s (bits .and .i64 p.e 15)) := by rw [ask, if_neg (by omega), if_neg (by omega)]
theorem ask_n {s : RS} {p : Item} {k n : Nat} (h : p.k % 7 = k) (hk : k < 5) (hn : sz k = n) : ask s p = rTake s n := by rw [ask_lt (by omega), h, hn]
theorem sizes_get {k : Nat} (h : k < 5) : ([.int .i64 1, .int .i64 4, .int .i64 8, .int .i64 32, .int .i64 32] : List Value)[k]? = some (.int .i64 ((sz k : Nat) : Int)) := by
  rcases (by omega : k = 0 ∨ k = 1 ∨ k = 2 ∨ k = 3 ∨ k = 4) with rfl | rfl | rfl | rfl | rfl <;> rfl
/-- Not enough: nothing. -/
theorem take_none {l : List UInt8} {e : Int} {n : Nat} (hi : RInv (l, e)) (h : ¬ (e = 0 ∧ n ≤ l.length)) (hn : 0 < n) : (rTake (l, e) n).1 = [] := by
  unfold rTake
  split
  · rfl
  · rename_i hl
    by_cases he : e = 0
    · exact absurd ⟨he, by simpa using hl⟩ h
    · have := hi.1 he
      simp only at this
      subst this
      simp at hl
      omega
theorem take_some {l : List UInt8} {e : Int} {n : Nat} (h : e = 0 ∧ n ≤ l.length) : (rTake (l, e) n).1.length = n := by
  rw [rTake, if_neg (by simp; omega)]
  simp; omega

/- sponsion/sponsionlaw04.PackReads -/
theorem packReads_walk (w : World) (A0 A : Option Addr) (c0 c : Nat) (bl : List UInt8) (its : List Item) (hr0 : Rd w A0 (bytesV bl)) (hr : RdI w A its) (hb0 : bl.length ≤ 9223372036854775807) (hb : its.length ≤ 9223372036854775807) :
    Gives Try.prog 5 #[.slice A0 bl.length c0, .slice A its.length c] w fun u w1 => u = .bool true ∧ Keep nof w w1 := by
  have M0 := Mem.start w nof
  refine Gives.enter (n := 213) Try.func5 rfl Try.ntmps5 rfl (env := [(0, .slice A0 bl.length c0), (1, .slice A its.length c)]) rfl ?_
  refine WC.seq ?_
  refine WC.region ?_
  refine WL.ex rfl rfl rfl (Ex.asg rfl) ?_
  refine WL.nil ?_
  refine WX.next (?_)
  refine WC.seq ?_
  refine WC.seq ?_
  refine WC.region ?_
  refine WL.ac rfl rfl rfl (Ac.call rfl Try.func16 nm16 rfl (lives04_ok w)) ?_; rintro v2 w2 ⟨rfl, K2⟩
  have M2 := M0.step K2
  refine WL.ex rfl rfl rfl (Ex.not rfl) ?_
  refine WL.ex rfl rfl rfl (Ex.mv rfl) ?_
  refine WL.yes rfl rfl rfl rfl ?_
  refine WL.ex rfl rfl rfl (Ex.mv rfl) ?_
  refine WL.yes rfl rfl rfl rfl ?_
  refine WL.ac rfl rfl rfl (Ac.call rfl Try.func17 nm17 rfl (few04_ok w2 _ _ _ (hr.keep M2.keep) (by first | (simp; done) | (simp; omega) | omega))) ?_; rintro v6 w6 ⟨rfl, K6⟩
  have M6 := M2.step K6
  by_cases hf : fewI its
  · rw [decide_eq_true hf]
    refine WL.yes rfl rfl rfl rfl ?_
    refine WL.ex rfl rfl rfl (Ex.not rfl) ?_
    refine WL.ex rfl rfl rfl (Ex.pickF rfl rfl) ?_
    refine WL.ex rfl rfl rfl (Ex.mv rfl) ?_
    refine WL.yes rfl rfl rfl rfl ?_
    refine WL.ex rfl rfl rfl (Ex.mv rfl) ?_
    refine WL.yes rfl rfl rfl rfl ?_
    refine WL.ex rfl rfl rfl (Ex.len Try.underlying25 rfl) ?_
    refine WL.yes rfl rfl rfl rfl ?_
    refine WL.ex rfl rfl rfl (Ex.gtr rfl rfl) ?_
    refine WL.ex rfl rfl rfl (Ex.pickF rfl rfl) ?_
    refine WL.nil ?_
    refine WX.next (?_)
    refine WC.cond_dec rfl (fun hc30 => ?_) (fun hc30 => ?_)
    · skip
      refine WC.seq ?_
      refine WC.region ?_
      refine WL.ac rfl rfl rfl (Ac.call rfl Try.func16 nm16 rfl (lives04_ok w6)) ?_; rintro v14 w14 ⟨rfl, K14⟩
      have M14 := M6.step K14
      refine WL.ex rfl rfl rfl (Ex.asg rfl) ?_
      refine WL.nil ?_
      refine WX.next (?_)
      refine WC.ret ?_
      refine WX.ret_then (?_)
      refine WX.ret1 rfl rfl ?_
      exact ⟨rfl, M14.keep⟩
    · have hb5 : bl.length ≤ 500 := by omega
      refine WC.skip ?_
      refine WX.next (?_)
      refine WC.seq ?_
      refine WC.region ?_
      refine WL.ac rfl rfl rfl (Ac.bs0 M6 Try.underlying25 sz5) ?_; rintro v16 w16 ⟨g16, rfl, hg16, K16, M16⟩
      refine WL.ex rfl rfl rfl (Ex.mv rfl) ?_
      refine WL.ac rfl rfl rfl (Ac.app M16 el25 rfl rfl (i := 0) rfl (by simp) (M16.rd hr0) (bytesV_one _) (by omega) (by simp [maxLen]; omega)) ?_; rintro v18 w18 ⟨K18, M18⟩
      try dsimp only [List.set] at M18
      simp only [Nat.zero_add, List.nil_append] at M18
      obtain ⟨Ao, co, rfl⟩ := own_slice (M18.get (i := 0) rfl)
      refine WL.ex rfl rfl rfl (Ex.asg rfl) ?_
      refine WL.nil ?_
      refine WX.next (?_)
      refine WC.seq ?_
      refine WC.region ?_
      refine WL.ex rfl rfl rfl (Ex.mv rfl) ?_
      refine WL.ac rfl rfl rfl (Ac.call rfl Try.func27 nm27 rfl (of_ok w18 _ _ _ (M18.rdr (i := 0) rfl) (by omega))) ?_; rintro v21 w21 ⟨gr, D, rfl, N21⟩
      have M21 := M18.new N21
      refine WL.ex rfl rfl rfl (Ex.asg rfl) ?_
      refine WL.nil ?_
      refine WX.next (?_)
      refine WC.seq ?_
      refine WC.seq ?_
      refine WC.region ?_
      refine WL.ex rfl rfl rfl (Ex.mv rfl) ?_
      refine WL.ex rfl rfl rfl (Ex.len Try.underlying25 rfl) ?_
      refine WL.ex rfl rfl rfl (Ex.mv rfl) ?_
      refine WL.nil ?_
      refine WX.next (?_)
      refine WC.block ?_
      refine WC.loop (σ := Nat) (fun j => [(0, .slice A0 bl.length c0), (1, .slice A its.length c), (5, .slice Ao bl.length co), (6, .pointer (some ⟨gr, 0, none⟩)), (38, .int .i64 (bl.length : Int)), (39, .int .i64 (j : Int))]) (fun j wr => j ≤ bl.length ∧ ∃ lo, lo.length = bl.length ∧ Mem w wr nof [rdR gr D (bl, 0), row (.slice Ao bl.length co) 5 1 bl.length (bytesV lo)]) (fun j => bl.length - j) (0) ?_ (.cons rfl (.cons rfl (.cons rfl (.cons rfl (.cons rfl (.cons rfl (.nil))))))) ?_
      · exact ⟨by omega, _, rfl, M21⟩
      rintro j w26 ⟨hj, lo, hlo, M26⟩
      refine WC.seq ?_
      refine WC.region ?_
      refine WL.ex rfl rfl rfl (Ex.lss rfl rfl) ?_
      refine WL.nil ?_
      refine WX.next (?_)
      refine WC.seq ?_
      refine WC.cond_dec rfl (fun hc40 => ?_) (fun hc40 => ?_)
      · obtain ⟨go, rfl⟩ := own_some (M26.get (i := 1) rfl) (by omega)
        obtain ⟨b, hbj⟩ : ∃ b, lo[j]? = some b := ⟨_, List.getElem?_eq_getElem (by omega)⟩
        refine WC.skip ?_
        refine WX.next (?_)
        refine WC.seq ?_
        refine WC.block ?_
        refine WC.seq ?_
        refine WC.region ?_
        refine WL.ex rfl rfl rfl (Ex.mv rfl) ?_
        refine WL.ex rfl rfl rfl (Ex.asg rfl) ?_
        refine WL.nil ?_
        refine WX.next (?_)
        refine WC.region ?_
        refine WL.ex rfl rfl rfl (Ex.mv rfl) ?_
        refine WL.ex rfl rfl rfl (Ex.mv rfl) ?_
        refine WL.ex rfl rfl rfl (Ex.ia Try.underlying25 sz5 rfl rfl ⟨by omega, by omega⟩) ?_
        refine WL.ex rfl rfl rfl (Ex.load ty5 rfl (Rd.at1 (u := byteV b) (M26.rdr (i := 1) rfl) (j := (j : Int).toNat * 1) (by simp [bytesV_get hbj]))) ?_
        refine WL.ex rfl rfl rfl (Ex.add rfl rfl (u8b (b.toNat + 1))) ?_
        refine WL.ex rfl rfl rfl (Ex.ia Try.underlying25 sz5 rfl rfl ⟨by omega, by omega⟩) ?_
        refine WL.ac0 rfl rfl (Ac.stR M26 ty5 rfl rfl rfl (i := 1) rfl (by simp; omega)) ?_; rintro v36 w36 ⟨K36, M36⟩
        try dsimp only [List.set] at M36
        simp only [Int.toNat_natCast, Nat.mul_one, Nat.zero_add] at M36
        rw [bytesV_set] at M36
        refine WL.nil ?_
        refine WX.normal_block (WX.next (?_))
        refine WC.region ?_
        refine WL.ex rfl rfl rfl (Ex.add rfl rfl (i64w _ (by omega) (by omega))) ?_
        refine WL.ex rfl rfl rfl (Ex.mv rfl) ?_
        refine WL.nil ?_
        refine WX.again (j + 1) ?_ ?_ (.cons rfl (.cons rfl (.cons rfl (.cons rfl (.cons rfl (.cons rfl (.nil)))))))
        · (try dsimp only); omega
        · exact ⟨by omega, _, by simpa using hlo, M36⟩
      · skip
        refine WC.exit ?_
        refine WX.exit_then (WX.exit_then (WX.exit_block (WX.next (?_))))
        refine WC.seq ?_
        refine WC.region ?_
        refine WL.ex rfl rfl rfl (Ex.mv rfl) ?_
        refine WL.ex rfl rfl rfl (Ex.cvBS Try.underlying25 Try.underlying5 Try.underlying9 rfl (M26.rd hr0)) ?_
        refine WL.ex rfl rfl rfl (Ex.bld bd53 (parts := [(0, .tmp 50)]) (l := [str bl, .int .i64 0]) rfl rfl rfl rfl) ?_
        refine WL.ac rfl rfl rfl (Ac.alloc M26 al53) ?_; rintro v42 w42 ⟨g8, rfl, hg42, K42, M42⟩
        refine WL.ac0 rfl rfl (Ac.stA M42 ty53 rfl rfl (vs := [str bl, .int .i64 0]) rfl rfl (by simp [str, Value.oneCell']) (i := 0) rfl (by simp)) ?_; rintro v43 w43 ⟨K43, M43⟩
        try dsimp only [List.set] at M43
        rw [splice_all _ _ (by simp)] at M43
        refine WL.nil ?_
        refine WX.next (?_)
        refine WC.seq ?_
        refine WC.region ?_
        refine WL.ac rfl rfl rfl (Ac.bs M43 (parts := [(0, .const (.int .i64 1)), (1, .const (.int .i64 4)), (2, .const (.int .i64 8)), (3, .const (.int .i64 32)), (4, .const (.int .i64 32))]) (l := [.int .i64 1, .int .i64 4, .int .i64 8, .int .i64 32, .int .i64 32]) rfl rfl ⟨Try.underlying54, 1, #[.int .i64 0], sz3, by decide, fun _ => by kernel_rfl, by kernel_rfl⟩) ?_; rintro v44 w44 ⟨gs, rfl, hg44, K44, M44⟩
        refine WL.ex rfl rfl rfl (Ex.asg rfl) ?_
        refine WL.nil ?_
        refine WX.next (?_)
        refine WC.seq ?_
        refine WC.seq ?_
        refine WC.region ?_
        refine WL.ex rfl rfl rfl (Ex.mv rfl) ?_
        refine WL.ex rfl rfl rfl (Ex.len Try.underlying28 rfl) ?_
        refine WL.ex rfl rfl rfl (Ex.mv rfl) ?_
        refine WL.nil ?_
        refine WX.next (?_)
        refine WC.block ?_
        refine WC.loop (σ := Nat) (fun i => [(53, .slice A its.length c), (54, .int .i64 (its.length : Int)), (55, .int .i64 (i : Int)), (6, .pointer (some ⟨gr, 0, none⟩)), (8, .pointer (some ⟨g8, 0, none⟩)), (9, .slice (some ⟨gs, 0, none⟩) 5 5)]) (fun i wr => i ≤ its.length ∧ ∃ s : RS, RInv s ∧ Mem w wr nof [blk gs [.int .i64 1, .int .i64 4, .int .i64 8, .int .i64 32, .int .i64 32] 3, blk g8 [str s.1, .int .i64 s.2] 53, rdR gr D s]) (fun i => its.length - i) (0) ?_ (.cons rfl (.cons rfl (.cons rfl (.cons rfl (.cons rfl (.cons rfl (.nil))))))) ?_
        · exact ⟨by omega, (bl, 0), ⟨fun h => absurd rfl h, hb5⟩, Mem.sub M44 (.cons_cons _ (.cons_cons _ (.cons_cons _ (List.nil_sublist _))))⟩
        rintro i w49 ⟨hi, ⟨l, e⟩, hI, M49⟩
        dsimp only at M49
        refine WC.seq ?_
        refine WC.region ?_
        refine WL.ex rfl rfl rfl (Ex.lss rfl rfl) ?_
        refine WL.nil ?_
        refine WX.next (?_)
        refine WC.seq ?_
        refine WC.cond_dec rfl (fun hc56 => ?_) (fun hc56 => ?_)
        · obtain ⟨p, hpi⟩ : ∃ p, its[i]? = some p := ⟨_, List.getElem?_eq_getElem (by omega)⟩
          have hpm : p ∈ its := List.mem_of_getElem? hpi
          have hpo := hr.ok p hpm
          have hok := hpo.k
          have hox := hpo.x
          have hoa := hpo.a
          have hoh := hpo.h
          obtain ⟨b0, o0, hA⟩ := hr.plain hpi
          subst hA
          have hb1 := hf.1 p hpm
          have hl5 := hI.2
          dsimp only at hl5
          obtain ⟨T, S1, hask⟩ : ∃ T S1, (T, S1) = ask (l, e) p := ⟨_, _, rfl⟩
          have hI1 : RInv S1 := by have := ask_inv (p := p) hI; rw [← hask] at this; exact this
          refine WC.skip ?_
          refine WX.next (?_)
          refine WC.seq ?_
          refine WC.block ?_
          refine WC.seq ?_
          refine WC.region ?_
          refine WL.ex rfl rfl rfl (Ex.ia Try.underlying28 sz39 rfl rfl ⟨by omega, by omega⟩) ?_
          refine WL.ex rfl rfl rfl (Ex.loadA ty39 rfl (l := itemC p) (item_len hpo) (Rd.flat (hr.keep M49.keep).row (i := (i : Int).toNat) (fun t ht => item_len (hr.ok t ht)) (by simpa using hpi))) ?_
          refine WL.ac rfl rfl rfl (Ac.alloc M49 al39) ?_; rintro v53 w53 ⟨gi, rfl, hg53, K53, M53⟩
          refine WL.ac0 rfl rfl (Ac.stA M53 ty39 rfl rfl (vs := itemC p) rfl (item_len hpo) item_one (i := 0) rfl (by simp [item_len hpo])) ?_; rintro v54 w54 ⟨K54, M54⟩
          try dsimp only [List.set] at M54
          rw [splice_all _ _ (by simp [item_len hpo])] at M54
          refine WL.nil ?_
          refine WX.next (?_)
          refine WC.seq ?_
          refine WC.region ?_
          refine WL.ex rfl rfl rfl (Ex.fa fl39_0 rfl) ?_
          refine WL.ex rfl rfl rfl (Ex.load ty5 rfl (M54.cell (i := 0) (v := .int .u8 (p.k : Int)) rfl rfl)) ?_
          refine WL.ex rfl rfl rfl (Ex.rem rfl rfl (by decide) (c := ((p.k % 7 : Nat) : Int)) (remN _ 7)) ?_
          refine WL.ex rfl rfl rfl (Ex.cvI Try.underlying5 Try.underlying3 rfl (i64w _ (by omega) (by omega))) ?_
          refine WL.ex rfl rfl rfl (Ex.asg rfl) ?_
          refine WL.nil ?_
          refine WX.next (?_)
          refine WC.seq ?_
          refine WC.region ?_
          refine WL.ex rfl rfl rfl (Ex.asg rfl) ?_
          refine WL.ex rfl rfl rfl (Ex.asg rfl) ?_
          refine WL.nil ?_
          refine WX.next (?_)
          refine WC.cut (σ := Bool) (fun ok => [(53, .slice (some ⟨b0, o0, none⟩) its.length c), (54, .int .i64 (its.length : Int)), (55, .int .i64 (i : Int)), (6, .pointer (some ⟨gr, 0, none⟩)), (8, .pointer (some ⟨g8, 0, none⟩)), (9, .slice (some ⟨gs, 0, none⟩) 5 5), (11, .pointer (some ⟨gi, 0, none⟩)), (12, .int .i64 ((p.k % 7 : Nat) : Int)), (13, str T), (14, .bool ok)]) (fun ok wr => (p.k % 7 < 5 → (ok = true ↔ e = 0 ∧ sz (p.k % 7) ≤ l.length)) ∧ Mem w wr nof [blk gi (itemC p) 39, blk gs [.int .i64 1, .int .i64 4, .int .i64 8, .int .i64 32, .int .i64 32] 3, blk g8 [str S1.1, .int .i64 S1.2] 53, rdR gr D (l, e)]) ?_ ?_
          ·
            refine WC.block ?_
            refine WC.seq ?_
            refine WC.region ?_
            refine WL.ex rfl rfl rfl (Ex.mv rfl) ?_
            refine WL.ex rfl rfl rfl (Ex.lss rfl rfl) ?_
            refine WL.ex rfl rfl rfl (Ex.asg rfl) ?_
            refine WL.nil ?_
            refine WX.next (?_)
            refine WC.cond_dec rfl (fun hc63 => ?_) (fun hc63 => ?_)
            · have hk5 : p.k % 7 < 5 := by omega
              rw [ask_lt hk5] at hask
              obtain rfl : T = (rTake (l, e) (sz (p.k % 7))).1 := congrArg Prod.fst hask
              obtain rfl : S1 = (rTake (l, e) (sz (p.k % 7))).2 := congrArg Prod.snd hask
              refine WC.draw (Keep nof w54.drew) [5, 10] [(1, 0), (2, 0), (3, 0), (0, 1), (4, 1), (5, 2), (6, 0), (7, 0), (8, 0), (9, 0), (10, 2), (11, 0), (12, 0)] mixed (by kernel_rfl) rfl (by kernel_rfl) (HQ.block (HQ.then_ (HQ.block (HQ.then_ (HQ.then_ (HQ.block (HQ.then_ HQ.body))))))) ?_
              obtain ⟨w65, hw65⟩ : ∃ v, v = w54.drew := ⟨_, rfl⟩
              have D65 : Keep nof w54 w65 := by rw [hw65]; exact Keep.drew _ _
              have M65 := M54.step D65
              rw [← hw65]; clear hw65
              refine WP.p rfl rfl rfl rfl (fun _ => Ex.mv rfl) ?_
              refine WP.p rfl rfl rfl rfl (fun _ => Ex.mv rfl) ?_
              refine WP.p rfl rfl rfl rfl (fun _ => Ex.ia Try.underlying54 sz3 rfl rfl ⟨by omega, by omega⟩) ?_
              refine WP.q (Keep.refl _ _) rfl rfl rfl rfl (fun w' hS => Ex.loadA ty53 rfl (l := [str l, .int .i64 e]) rfl ((M65.rdw (i := 2) rfl).keep0 hS)) ?_
              refine WP.q (Keep.refl _ _) rfl rfl rfl rfl (fun w' hS => Ex.load ty3 rfl (hS.cell (M65.cell (i := 1) rfl (by simpa only [Nat.zero_add, Nat.mul_one, Int.toNat_natCast] using sizes_get hk5)) (fun f => f))) ?_
              refine WP.a rfl rfl rfl rfl (Ac.call rfl Try.func28 nm28 rfl (take4_ok w65 l e _ (fun h => hI.1 h))) ?_; rintro v71 w71 ⟨⟨ok, rfl, hok⟩, K71⟩; refine .inl ⟨rfl, Keep nof w71, ?_⟩
              have M71 := M65.step K71
              refine WP.p rfl rfl rfl rfl (fun _ => Ex.mv rfl) ?_
              refine WP.p rfl rfl rfl rfl (fun _ => Ex.ext rfl rfl) ?_
              refine WP.p rfl rfl rfl rfl (fun _ => Ex.ext rfl rfl) ?_
              refine WP.p rfl rfl rfl rfl (fun _ => Ex.ext rfl rfl) ?_
              refine WP.a0 rfl rfl rfl (Ac.stA M71 ty53 rfl rfl (vs := [str (rTake (l, e) (sz (p.k % 7))).2.1, .int .i64 (rTake (l, e) (sz (p.k % 7))).2.2]) rfl rfl (by simp [str, Value.oneCell']) (i := 2) rfl (by simp)) ?_; rintro v76 w76 ⟨K76, M76⟩; refine .inl ⟨rfl, Keep nof w76, ?_⟩
              try dsimp only [List.set] at M76
              rw [splice_all _ _ (by simp)] at M76
              refine WP.p rfl rfl rfl rfl (fun _ => Ex.asg rfl) ?_
              refine WP.p rfl rfl rfl rfl (fun _ => Ex.asg rfl) ?_
              refine WP.nil ?_
              refine WX.normal_block (?_)
              refine WX.join (ok) ?_ (.cons rfl (.cons rfl (.cons rfl (.cons rfl (.cons rfl (.cons rfl (.cons rfl (.cons rfl (.cons rfl (.cons rfl (.nil)))))))))))
              exact ⟨fun _ => hok, M76⟩
            · skip
              refine WC.seq ?_
              refine WC.region ?_
              refine WL.ex rfl rfl rfl (Ex.mv rfl) ?_
              refine WL.ex rfl rfl rfl (Ex.eqI rfl rfl) ?_
              refine WL.ex rfl rfl rfl (Ex.asg rfl) ?_
              refine WL.nil ?_
              refine WX.next (?_)
              refine WC.cond_dec rfl (fun hc76 => ?_) (fun hc76 => ?_)
              · have hk : p.k % 7 = 5 := by omega
                rw [ask_5 hk] at hask
                obtain rfl : T = (rTake (l, e) p.n.toNat).1 := congrArg Prod.fst hask
                obtain rfl : S1 = (rTake (l, e) p.n.toNat).2 := congrArg Prod.snd hask
                refine WC.region ?_
                refine WL.ex rfl rfl rfl (Ex.loadA ty53 rfl (l := [str l, .int .i64 e]) rfl (M54.rdw (i := 2) rfl)) ?_
                refine WL.ex rfl rfl rfl (Ex.fa fl39_5 rfl) ?_
                refine WL.ex rfl rfl rfl (Ex.load ty3 rfl (M54.cell (i := 0) rfl (item_39 hpo))) ?_
                refine WL.ex rfl rfl rfl (Ex.max2 rfl rfl (c := ((p.n.toNat : Nat) : Int)) (by split <;> omega)) ?_
                refine WL.ac rfl rfl rfl (Ac.call rfl Try.func28 nm28 rfl (take4_ok w54 l e _ (fun h => hI.1 h))) ?_; rintro v86 w86 ⟨⟨ok, rfl, hok⟩, K86⟩
                have M86 := M54.step K86
                refine WL.ex rfl rfl rfl (Ex.mv rfl) ?_
                refine WL.ex rfl rfl rfl (Ex.ext rfl rfl) ?_
                refine WL.ex rfl rfl rfl (Ex.ext rfl rfl) ?_
                refine WL.ex rfl rfl rfl (Ex.ext rfl rfl) ?_
                refine WL.ac0 rfl rfl (Ac.stA M86 ty53 rfl rfl (vs := [str (rTake (l, e) p.n.toNat).2.1, .int .i64 (rTake (l, e) p.n.toNat).2.2]) rfl rfl (by simp [str, Value.oneCell']) (i := 2) rfl (by simp)) ?_; rintro v91 w91 ⟨K91, M91⟩
                try dsimp only [List.set] at M91
                rw [splice_all _ _ (by simp)] at M91
                refine WL.ex rfl rfl rfl (Ex.asg rfl) ?_
                refine WL.nil ?_
                refine WX.normal_block (?_)
                refine WX.join (false) ?_ (.cons rfl (.cons rfl (.cons rfl (.cons rfl (.cons rfl (.cons rfl (.cons rfl (.cons rfl (.cons rfl (.cons rfl (.nil)))))))))))
                exact ⟨fun h => by omega, M91⟩
              · have hk : p.k % 7 = 6 := by omega
                rw [ask_6 hk] at hask
                obtain rfl : T = [] := congrArg Prod.fst hask
                obtain rfl : S1 = rFail (l, e) (bits .and .i64 p.e 15) := congrArg Prod.snd hask
                refine WC.seq ?_
                refine WC.region ?_
                refine WL.ex rfl rfl rfl (Ex.fa fl39_6 rfl) ?_
                refine WL.ex rfl rfl rfl (Ex.load ty3 rfl (M54.cell (i := 0) rfl (item_40 hpo))) ?_
                refine WL.ex rfl rfl rfl (Ex.band rfl rfl rfl) ?_
                refine WL.ex rfl rfl rfl (Ex.neI rfl rfl) ?_
                rcases Decidable.em (bits .and .i64 p.e 15 ≠ 0) with hx | hx
                · rw [decide_eq_false hx]
                  refine WL.ex rfl rfl rfl (Ex.mv rfl) ?_
                  refine WL.yes rfl rfl rfl rfl ?_
                  refine WL.ex rfl rfl rfl (Ex.fa fl53_1 rfl) ?_
                  refine WL.yes rfl rfl rfl rfl ?_
                  refine WL.ex rfl rfl rfl (Ex.load ty3 rfl (M54.cell (i := 2) rfl rfl)) ?_
                  refine WL.yes rfl rfl rfl rfl ?_
                  refine WL.ex rfl rfl rfl (Ex.eqI rfl rfl) ?_
                  refine WL.ex rfl rfl rfl (Ex.pickT rfl rfl) ?_
                  refine WL.ex rfl rfl rfl (Ex.asg rfl) ?_
                  refine WL.nil ?_
                  refine WX.next (?_)
                  refine WC.cond_dec rfl (fun hc88 => ?_) (fun hc88 => ?_)
                  · have he : e = 0 := hc88
                    rw [show rFail (l, e) (bits .and .i64 p.e 15) = ([], bits .and .i64 p.e 15) by simp [rFail, he, hx]]
                    refine WC.region ?_
                    refine WL.ex rfl rfl rfl (Ex.fa fl39_6 rfl) ?_
                    refine WL.ex rfl rfl rfl (Ex.load ty3 rfl (M54.cell (i := 0) rfl (item_40 hpo))) ?_
                    refine WL.ex rfl rfl rfl (Ex.band rfl rfl rfl) ?_
                    refine WL.ex rfl rfl rfl (Ex.bld bd53 (parts := [(1, .tmp 100)]) (l := [str [], .int .i64 (bits .and .i64 p.e 15)]) rfl rfl rfl rfl) ?_
                    refine WL.ac0 rfl rfl (Ac.stA M54 ty53 rfl rfl (vs := [str [], .int .i64 (bits .and .i64 p.e 15)]) rfl rfl (by simp [str, Value.oneCell']) (i := 2) rfl (by simp)) ?_; rintro v107 w107 ⟨K107, M107⟩
                    try dsimp only [List.set] at M107
                    rw [splice_all _ _ (by simp)] at M107
                    refine WL.nil ?_
                    refine WX.normal_block (?_)
                    refine WX.join (false) ?_ (.cons rfl (.cons rfl (.cons rfl (.cons rfl (.cons rfl (.cons rfl (.cons rfl (.cons rfl (.cons rfl (.cons rfl (.nil)))))))))))
                    exact ⟨fun h => by omega, M107⟩
                  · have he : ¬ e = 0 := hc88
                    rw [show rFail (l, e) (bits .and .i64 p.e 15) = (l, e) by simp [rFail, he]]
                    refine WC.skip ?_
                    refine WX.normal_block (?_)
                    refine WX.join (false) ?_ (.cons rfl (.cons rfl (.cons rfl (.cons rfl (.cons rfl (.cons rfl (.cons rfl (.cons rfl (.cons rfl (.cons rfl (.nil)))))))))))
                    exact ⟨fun h => by omega, M54⟩
                · have hx0 : bits .and .i64 p.e 15 = 0 := by simpa using hx
                  rw [decide_eq_true hx0, show rFail (l, e) (bits .and .i64 p.e 15) = (l, e) by simp [rFail, hx0]]
                  refine WL.ex rfl rfl rfl (Ex.mv rfl) ?_
                  refine WL.no rfl rfl rfl rfl rfl rfl ?_
                  refine WL.no rfl rfl rfl rfl rfl rfl ?_
                  refine WL.no rfl rfl rfl rfl rfl rfl ?_
                  refine WL.ex rfl rfl rfl (Ex.pickF rfl rfl) ?_
                  refine WL.ex rfl rfl rfl (Ex.asg rfl) ?_
                  refine WL.nil ?_
                  refine WX.next (?_)
                  refine WC.no rfl ?_
                  refine WC.skip ?_
                  refine WX.normal_block (?_)
                  refine WX.join (false) ?_ (.cons rfl (.cons rfl (.cons rfl (.cons rfl (.cons rfl (.cons rfl (.cons rfl (.cons rfl (.cons rfl (.cons rfl (.nil)))))))))))
                  exact ⟨fun h => by omega, M54⟩
          · rintro ok w111 ⟨hok, M111⟩
            refine WC.seq ?_
            refine WC.region ?_
            refine WL.ex rfl rfl rfl (Ex.asg rfl) ?_
            refine WL.nil ?_
            refine WX.next (?_)
            refine WC.cut (σ := Unit) (fun _ => [(53, .slice (some ⟨b0, o0, none⟩) its.length c), (54, .int .i64 (its.length : Int)), (55, .int .i64 (i : Int)), (6, .pointer (some ⟨gr, 0, none⟩)), (8, .pointer (some ⟨g8, 0, none⟩)), (9, .slice (some ⟨gs, 0, none⟩) 5 5), (15, .bool true)]) (fun _ wr => Mem w wr nof [blk gs [.int .i64 1, .int .i64 4, .int .i64 8, .int .i64 32, .int .i64 32] 3, blk g8 [str S1.1, .int .i64 S1.2] 53, rdR gr D S1]) ?_ ?_
            ·
              refine WC.seq ?_
              refine WC.region ?_
              refine WL.ex rfl rfl rfl (Ex.mv rfl) ?_
              refine WL.nil ?_
              refine WX.next (?_)
              refine WC.block ?_
              refine WC.seq ?_
              refine WC.region ?_
              refine WL.ex rfl rfl rfl (Ex.eqI rfl rfl) ?_
              refine WL.ex rfl rfl rfl (Ex.asg rfl) ?_
              refine WL.nil ?_
              refine WX.next (?_)
              refine WC.cond_dec rfl (fun hc108 => ?_) (fun hc108 => ?_)
              · have hk : p.k % 7 = 0 := by omega
                rw [ask_n (n := 1) hk (by decide) rfl] at hask
                have hok1 := hok (by omega)
                rw [hk] at hok1
                obtain rfl : T = (rTake (l, e) 1).1 := congrArg Prod.fst hask
                obtain rfl : S1 = (rTake (l, e) 1).2 := congrArg Prod.snd hask
                refine WC.region ?_
                refine WL.ex rfl rfl rfl (Ex.mv rfl) ?_
                refine WL.ac rfl rfl rfl (Ac.call rfl Try.func29 nm29 rfl (rU8_ok w111 _ _ l e (M111.get (i := 3) rfl))) ?_; rintro v117 w117 ⟨rfl, T117⟩
                have M117 := M111.turned (i := 3) rfl T117
                try dsimp only [List.set] at M117
                refine WL.ex rfl rfl rfl (Ex.cvI Try.underlying5 Try.underlying33 rfl (u64w_lt _ (Nat.lt_trans (beVal_lt_of (rTake_len _ 1)) (by decide)))) ?_
                refine WL.ex rfl rfl rfl (Ex.mv rfl) ?_
                refine WL.ac rfl rfl rfl (Ac.call rfl Try.func30 nm30 rfl (value4_ok w117 _ (by have := rTake_len (l, e) 1; omega))) ?_; rintro v120 w120 ⟨rfl, K120⟩
                have M120 := M117.step K120
                refine WL.ex rfl rfl rfl (Ex.eqI rfl rfl) ?_
                rw [decide_eq_true rfl]
                refine WL.ex rfl rfl rfl (Ex.asg rfl) ?_
                refine WL.nil ?_
                refine WX.normal_block (?_)
                refine WX.join (()) ?_ (.cons rfl (.cons rfl (.cons rfl (.cons rfl (.cons rfl (.cons rfl (.cons rfl (.nil))))))))
                first | exact Mem.sub M120 (.cons _ (.refl _)) | exact Mem.sub M120 (.cons _ (.cons _ (.refl _)))
              · skip
                refine WC.seq ?_
                refine WC.region ?_
                refine WL.ex rfl rfl rfl (Ex.eqI rfl rfl) ?_
                refine WL.ex rfl rfl rfl (Ex.asg rfl) ?_
                refine WL.nil ?_
                refine WX.next (?_)
                refine WC.cond_dec rfl (fun hc116 => ?_) (fun hc116 => ?_)
                · have hk : p.k % 7 = 1 := by omega
                  rw [ask_n (n := 4) hk (by decide) rfl] at hask
                  have hok1 := hok (by omega)
                  rw [hk] at hok1
                  obtain rfl : T = (rTake (l, e) 4).1 := congrArg Prod.fst hask
                  obtain rfl : S1 = (rTake (l, e) 4).2 := congrArg Prod.snd hask
                  refine WC.region ?_
                  refine WL.ex rfl rfl rfl (Ex.mv rfl) ?_
                  refine WL.ac rfl rfl rfl (Ac.call rfl Try.func31 nm31 rfl (rU32_ok w111 _ _ l e (M111.get (i := 3) rfl))) ?_; rintro v126 w126 ⟨rfl, T126⟩
                  have M126 := M111.turned (i := 3) rfl T126
                  try dsimp only [List.set] at M126
                  refine WL.ex rfl rfl rfl (Ex.cvI Try.underlying43 Try.underlying33 rfl (u64w_lt _ (Nat.lt_trans (beVal_lt_of (rTake_len _ 4)) (by decide)))) ?_
                  refine WL.ex rfl rfl rfl (Ex.mv rfl) ?_
                  refine WL.ac rfl rfl rfl (Ac.call rfl Try.func30 nm30 rfl (value4_ok w126 _ (by have := rTake_len (l, e) 4; omega))) ?_; rintro v129 w129 ⟨rfl, K129⟩
                  have M129 := M126.step K129
                  refine WL.ex rfl rfl rfl (Ex.eqI rfl rfl) ?_
                  rw [decide_eq_true rfl]
                  refine WL.ex rfl rfl rfl (Ex.asg rfl) ?_
                  refine WL.nil ?_
                  refine WX.normal_block (?_)
                  refine WX.join (()) ?_ (.cons rfl (.cons rfl (.cons rfl (.cons rfl (.cons rfl (.cons rfl (.cons rfl (.nil))))))))
                  first | exact Mem.sub M129 (.cons _ (.refl _)) | exact Mem.sub M129 (.cons _ (.cons _ (.refl _)))
                · skip
                  refine WC.seq ?_
                  refine WC.region ?_
                  refine WL.ex rfl rfl rfl (Ex.eqI rfl rfl) ?_
                  refine WL.ex rfl rfl rfl (Ex.asg rfl) ?_
                  refine WL.nil ?_
                  refine WX.next (?_)
                  refine WC.cond_dec rfl (fun hc124 => ?_) (fun hc124 => ?_)
                  · have hk : p.k % 7 = 2 := by omega
                    rw [ask_n (n := 8) hk (by decide) rfl] at hask
                    have hok1 := hok (by omega)
                    rw [hk] at hok1
                    obtain rfl : T = (rTake (l, e) 8).1 := congrArg Prod.fst hask
                    obtain rfl : S1 = (rTake (l, e) 8).2 := congrArg Prod.snd hask
                    refine WC.region ?_
                    refine WL.ex rfl rfl rfl (Ex.mv rfl) ?_
                    refine WL.ac rfl rfl rfl (Ac.call rfl Try.func32 nm32 rfl (rU64_ok w111 _ _ l e (M111.get (i := 3) rfl))) ?_; rintro v135 w135 ⟨rfl, T135⟩
                    have M135 := M111.turned (i := 3) rfl T135
                    try dsimp only [List.set] at M135
                    refine WL.ex rfl rfl rfl (Ex.mv rfl) ?_
                    refine WL.ac rfl rfl rfl (Ac.call rfl Try.func30 nm30 rfl (value4_ok w135 _ (by have := rTake_len (l, e) 8; omega))) ?_; rintro v137 w137 ⟨rfl, K137⟩
                    have M137 := M135.step K137
                    refine WL.ex rfl rfl rfl (Ex.eqI rfl rfl) ?_
                    rw [decide_eq_true rfl]
                    refine WL.ex rfl rfl rfl (Ex.asg rfl) ?_
                    refine WL.nil ?_
                    refine WX.normal_block (?_)
                    refine WX.join (()) ?_ (.cons rfl (.cons rfl (.cons rfl (.cons rfl (.cons rfl (.cons rfl (.cons rfl (.nil))))))))
                    first | exact Mem.sub M137 (.cons _ (.refl _)) | exact Mem.sub M137 (.cons _ (.cons _ (.refl _)))
                  · skip
                    refine WC.seq ?_
                    refine WC.region ?_
                    refine WL.ex rfl rfl rfl (Ex.eqI rfl rfl) ?_
                    refine WL.ex rfl rfl rfl (Ex.asg rfl) ?_
                    refine WL.nil ?_
                    refine WX.next (?_)
                    refine WC.cond_dec rfl (fun hc131 => ?_) (fun hc131 => ?_)
                    · have hk : p.k % 7 = 3 := by omega
                      rw [ask_n (n := 32) hk (by decide) rfl] at hask
                      have hok1 := hok (by omega)
                      rw [hk] at hok1
                      obtain rfl : T = (rTake (l, e) 32).1 := congrArg Prod.fst hask
                      obtain rfl : S1 = (rTake (l, e) 32).2 := congrArg Prod.snd hask
                      refine WC.seq ?_
                      refine WC.region ?_
                      refine WL.ex rfl rfl rfl (Ex.mv rfl) ?_
                      refine WL.ac rfl rfl rfl (Ac.call rfl Try.func33 nm33 rfl (rInt_ok w111 _ _ l e (M111.get (i := 3) rfl))) ?_; rintro v143 w143 ⟨rfl, T143⟩
                      have M143 := M111.turned (i := 3) rfl T143
                      try dsimp only [List.set] at M143
                      refine WL.ac rfl rfl rfl (Ac.alloc M143 al35) ?_; rintro v144 w144 ⟨ga, rfl, hg144, K144, M144⟩
                      refine WL.ac0 rfl rfl (Ac.stA M144 ty35 rfl rfl (vs := intV (rInt (rTake (l, e) 32).1)) rfl (by simp [rInt_len]) (intV_one _) (i := 0) rfl (by simp [rInt_len])) ?_; rintro v145 w145 ⟨K145, M145⟩
                      try dsimp only [List.set] at M145
                      rw [splice_all _ _ (by simp [rInt_len])] at M145
                      refine WL.nil ?_
                      refine WX.next (?_)
                      refine WC.draw (Keep nof w145.drew) [] [(0, 0), (1, 0), (2, 0), (4, 0), (3, 1), (5, 0), (6, 0), (7, 0), (8, 0), (9, 0), (11, 0), (10, 1), (12, 2), (13, 0), (14, 0), (15, 0), (16, 0)] mixed (by kernel_rfl) rfl (by kernel_rfl) (HQ.block (HQ.then_ (HQ.block (HQ.then_ (HQ.then_ (HQ.block (HQ.then_ HQ.body))))))) ?_
                      obtain ⟨w146, hw146⟩ : ∃ v, v = w145.drew := ⟨_, rfl⟩
                      have D146 : Keep nof w145 w146 := by rw [hw146]; exact Keep.drew _ _
                      have M146 := M145.step D146
                      rw [← hw146]; clear hw146
                      refine WP.p rfl rfl rfl rfl (fun _ => Ex.mv rfl) ?_
                      rcases Bool.eq_false_or_eq_true ok with hb9 | hb9 <;> subst hb9
                      · have hT : (rTake (l, e) 32).1.length = 32 := take_some (hok1.1 rfl)
                        refine WP.p rfl rfl rfl rfl (fun _ => Ex.not rfl) ?_
                        refine WP.p rfl rfl rfl rfl (fun _ => Ex.mv rfl) ?_
                        refine WP.no rfl rfl rfl rfl rfl rfl rfl ?_
                        refine WP.no1 (Keep.refl _ _) rfl rfl rfl rfl rfl rfl rfl ?_
                        refine WP.no rfl rfl rfl rfl rfl rfl rfl ?_
                        refine WP.p rfl rfl rfl rfl (fun _ => Ex.pickF rfl rfl) ?_
                        refine WP.p rfl rfl rfl rfl (fun _ => Ex.mv rfl) ?_
                        refine WP.py rfl rfl rfl rfl rfl rfl (fun _ => Ex.mv rfl) ?_
                        refine WP.py rfl rfl rfl rfl rfl rfl (fun _ => Ex.mv rfl) ?_
                        
                        refine WP.py rfl rfl rfl rfl rfl rfl (fun _ => Ex.mv rfl) ?_
                        refine WP.qy (Keep.refl _ _) rfl rfl rfl rfl rfl rfl (fun w' hS => Ex.loadA ty35 rfl (l := intV (rInt (rTake (l, e) 32).1)) (by simp [rInt_len]) ((M146.rdw (i := 0) rfl).keep0 hS)) ?_
                        refine WP.ay rfl rfl rfl rfl rfl rfl (Ac.call rfl Try.func34 nm34 rfl (intOf4_ok w146 _ hT)) ?_; rintro v156 w156 ⟨rfl, K156⟩; refine .inr ⟨fun h => h.trans K156, ?_⟩
                        have M156 := M146.step K156
                        refine WP.py rfl rfl rfl rfl rfl rfl (fun _ => Ex.eqA rfl rfl (eqInt w (rInt_ok4 _) (ofB_ok hT))) ?_
                        rw [decide_eq_true (show rInt (rTake (l, e) 32).1 = ofB (rTake (l, e) 32).1 by rw [rInt, if_pos hT])]
                        refine WP.py rfl rfl rfl rfl rfl rfl (fun _ => Ex.pickT rfl rfl) ?_
                        refine WP.p rfl rfl rfl rfl (fun _ => Ex.pickF rfl rfl) ?_
                        refine WP.p rfl rfl rfl rfl (fun _ => Ex.asg rfl) ?_
                        refine WP.nil ?_
                        refine WX.normal_block (?_)
                        refine WX.join (()) ?_ (.cons rfl (.cons rfl (.cons rfl (.cons rfl (.cons rfl (.cons rfl (.cons rfl (.nil))))))))
                        first | exact Mem.sub M156 (.cons _ (.refl _)) | exact Mem.sub M156 (.cons _ (.cons _ (.refl _)))
                      · have hT := take_none (n := 32) hI (fun h => by have := hok1.2 h; cases this) (by decide)
                        refine WP.p rfl rfl rfl rfl (fun _ => Ex.not rfl) ?_
                        refine WP.p rfl rfl rfl rfl (fun _ => Ex.mv rfl) ?_
                        refine WP.py rfl rfl rfl rfl rfl rfl (fun _ => Ex.bld bd35 (parts := []) (l := intV [0, 0, 0, 0]) rfl rfl rfl rfl) ?_
                        refine WP.qy (Keep.refl _ _) rfl rfl rfl rfl rfl rfl (fun w' hS => Ex.loadA ty35 rfl (l := intV (rInt (rTake (l, e) 32).1)) (by simp [rInt_len]) ((M146.rdw (i := 0) rfl).keep0 hS)) ?_
                        refine WP.py rfl rfl rfl rfl rfl rfl (fun _ => Ex.eqA rfl rfl (eqInt w (rInt_ok4 _) (rInt_ok4 []))) ?_
                        rw [decide_eq_true (show rInt (rTake (l, e) 32).1 = [0, 0, 0, 0] by rw [hT]; rfl)]
                        refine WP.p rfl rfl rfl rfl (fun _ => Ex.pickT rfl rfl) ?_
                        refine WP.p rfl rfl rfl rfl (fun _ => Ex.mv rfl) ?_
                        refine WP.no rfl rfl rfl rfl rfl rfl rfl ?_
                        refine WP.no rfl rfl rfl rfl rfl rfl rfl ?_
                        refine WP.no rfl rfl rfl rfl rfl rfl rfl ?_
                        refine WP.no1 (Keep.refl _ _) rfl rfl rfl rfl rfl rfl rfl ?_
                        refine WP.no2 rfl rfl rfl rfl rfl rfl rfl ?_
                        refine WP.no rfl rfl rfl rfl rfl rfl rfl ?_
                        refine WP.no rfl rfl rfl rfl rfl rfl rfl ?_
                        refine WP.p rfl rfl rfl rfl (fun _ => Ex.pickT rfl rfl) ?_
                        refine WP.p rfl rfl rfl rfl (fun _ => Ex.asg rfl) ?_
                        refine WP.nil ?_
                        refine WX.normal_block (?_)
                        refine WX.join (()) ?_ (.cons rfl (.cons rfl (.cons rfl (.cons rfl (.cons rfl (.cons rfl (.cons rfl (.nil))))))))
                        first | exact Mem.sub M146 (.cons _ (.refl _)) | exact Mem.sub M146 (.cons _ (.cons _ (.refl _)))
                    · skip
                      refine WC.seq ?_
                      refine WC.region ?_
                      refine WL.ex rfl rfl rfl (Ex.eqI rfl rfl) ?_
                      refine WL.ex rfl rfl rfl (Ex.asg rfl) ?_
                      refine WL.nil ?_
                      refine WX.next (?_)
                      refine WC.cond_dec rfl (fun hc151 => ?_) (fun hc151 => ?_)
                      · have hk : p.k % 7 = 4 := by omega
                        rw [ask_n (n := 32) hk (by decide) rfl] at hask
                        have hok1 := hok (by omega)
                        rw [hk] at hok1
                        obtain rfl : T = (rTake (l, e) 32).1 := congrArg Prod.fst hask
                        obtain rfl : S1 = (rTake (l, e) 32).2 := congrArg Prod.snd hask
                        refine WC.seq ?_
                        refine WC.region ?_
                        refine WL.ex rfl rfl rfl (Ex.mv rfl) ?_
                        refine WL.ac rfl rfl rfl (Ac.call rfl Try.func35 nm35 rfl (rHash_ok w111 _ _ l e (M111.get (i := 3) rfl))) ?_; rintro v173 w173 ⟨rfl, T173⟩
                        have M173 := M111.turned (i := 3) rfl T173
                        try dsimp only [List.set] at M173
                        refine WL.ac rfl rfl rfl (Ac.alloc M173 al37) ?_; rintro v174 w174 ⟨ga, rfl, hg174, K174, M174⟩
                        have hol := rTake_len (l, e) 32
                        refine WL.ac0 rfl rfl (Ac.stA M174 ty37 rfl rfl (vs := bytesV (hash32 (rTake (l, e) 32).1)) rfl (by simp [hash32_len hol]) (bytesV_one _) (i := 0) rfl (by simp [hash32_len hol])) ?_; rintro v175 w175 ⟨K175, M175⟩
                        try dsimp only [List.set] at M175
                        rw [splice_all _ _ (by simp [hash32_len hol])] at M175
                        refine WL.nil ?_
                        refine WX.next (?_)
                        refine WC.region ?_
                        refine WL.ex rfl rfl rfl (Ex.mv rfl) ?_
                        rcases Bool.eq_false_or_eq_true ok with hb9 | hb9 <;> subst hb9
                        · have hT : (rTake (l, e) 32).1.length = 32 := take_some (hok1.1 rfl)
                          refine WL.ex rfl rfl rfl (Ex.not rfl) ?_
                          refine WL.ex rfl rfl rfl (Ex.mv rfl) ?_
                          refine WL.no rfl rfl rfl rfl rfl rfl ?_
                          refine WL.no rfl rfl rfl rfl rfl rfl ?_
                          refine WL.no rfl rfl rfl rfl rfl rfl ?_
                          refine WL.ex rfl rfl rfl (Ex.pickF rfl rfl) ?_
                          refine WL.ex rfl rfl rfl (Ex.mv rfl) ?_
                          refine WL.yes rfl rfl rfl rfl ?_
                          refine WL.ex rfl rfl rfl (Ex.mv rfl) ?_
                          refine WL.yes rfl rfl rfl rfl ?_
                          refine WL.ex rfl rfl rfl (Ex.mv rfl) ?_
                          
                          refine WL.yes rfl rfl rfl rfl ?_
                          refine WL.ex rfl rfl rfl (Ex.slA Try.underlying37 sz5 rfl) ?_
                          refine WL.yes rfl rfl rfl rfl ?_
                          refine WL.ex rfl rfl rfl (Ex.cvBSn Try.underlying25 Try.underlying5 Try.underlying9 rfl (hash32_len hol).symm (M175.rdw (i := 0) rfl)) ?_
                          refine WL.yes rfl rfl rfl rfl ?_
                          refine WL.ex rfl rfl rfl (Ex.mv rfl) ?_
                          refine WL.yes rfl rfl rfl rfl ?_
                          refine WL.ex rfl rfl rfl (Ex.eqS rfl rfl) ?_
                          rw [decide_eq_true (show hash32 (rTake (l, e) 32).1 = (rTake (l, e) 32).1 by simp [hash32, hT])]
                          refine WL.yes rfl rfl rfl rfl ?_
                          refine WL.ex rfl rfl rfl (Ex.pickT rfl rfl) ?_
                          refine WL.ex rfl rfl rfl (Ex.pickF rfl rfl) ?_
                          refine WL.ex rfl rfl rfl (Ex.asg rfl) ?_
                          refine WL.nil ?_
                          refine WX.normal_block (?_)
                          refine WX.join (()) ?_ (.cons rfl (.cons rfl (.cons rfl (.cons rfl (.cons rfl (.cons rfl (.cons rfl (.nil))))))))
                          first | exact Mem.sub M175 (.cons _ (.refl _)) | exact Mem.sub M175 (.cons _ (.cons _ (.refl _)))
                        · have hT := take_none (n := 32) hI (fun h => by have := hok1.2 h; cases this) (by decide)
                          refine WL.ex rfl rfl rfl (Ex.not rfl) ?_
                          refine WL.ex rfl rfl rfl (Ex.mv rfl) ?_
                          refine WL.yes rfl rfl rfl rfl ?_
                          refine WL.ex rfl rfl rfl (Ex.loadA ty37 rfl (l := bytesV (hash32 (rTake (l, e) 32).1)) (by simp [hash32_len hol]) (M175.rdw (i := 0) rfl)) ?_
                          refine WL.yes rfl rfl rfl rfl ?_
                          refine WL.ex rfl rfl rfl (Ex.bld bd37 (parts := []) (l := bytesV (hash32 [])) rfl rfl rfl rfl) ?_
                          refine WL.yes rfl rfl rfl rfl ?_
                          refine WL.ex rfl rfl rfl (Ex.eqA rfl rfl (eqHash w (hash32_len hol) (hash32_len (by simp)))) ?_
                          rw [decide_eq_true (show hash32 (rTake (l, e) 32).1 = hash32 [] by rw [hT])]
                          refine WL.ex rfl rfl rfl (Ex.pickT rfl rfl) ?_
                          refine WL.ex rfl rfl rfl (Ex.mv rfl) ?_
                          refine WL.no rfl rfl rfl rfl rfl rfl ?_
                          refine WL.no rfl rfl rfl rfl rfl rfl ?_
                          refine WL.no rfl rfl rfl rfl rfl rfl ?_
                          refine WL.no rfl rfl rfl rfl rfl rfl ?_
                          refine WL.no rfl rfl rfl rfl rfl rfl ?_
                          refine WL.no rfl rfl rfl rfl rfl rfl ?_
                          refine WL.no rfl rfl rfl rfl rfl rfl ?_
                          refine WL.ex rfl rfl rfl (Ex.pickT rfl rfl) ?_
                          refine WL.ex rfl rfl rfl (Ex.asg rfl) ?_
                          refine WL.nil ?_
                          refine WX.normal_block (?_)
                          refine WX.join (()) ?_ (.cons rfl (.cons rfl (.cons rfl (.cons rfl (.cons rfl (.cons rfl (.cons rfl (.nil))))))))
                          first | exact Mem.sub M175 (.cons _ (.refl _)) | exact Mem.sub M175 (.cons _ (.cons _ (.refl _)))
                      · skip
                        refine WC.seq ?_
                        refine WC.region ?_
                        refine WL.ex rfl rfl rfl (Ex.eqI rfl rfl) ?_
                        refine WL.ex rfl rfl rfl (Ex.asg rfl) ?_
                        refine WL.nil ?_
                        refine WX.next (?_)
                        refine WC.cond_dec rfl (fun hc171 => ?_) (fun hc171 => ?_)
                        · have hk : p.k % 7 = 5 := by omega
                          rw [ask_5 hk] at hask
                          obtain rfl : T = (rTake (l, e) p.n.toNat).1 := congrArg Prod.fst hask
                          obtain rfl : S1 = (rTake (l, e) p.n.toNat).2 := congrArg Prod.snd hask
                          refine WC.region ?_
                          refine WL.ex rfl rfl rfl (Ex.mv rfl) ?_
                          refine WL.ex rfl rfl rfl (Ex.fa fl39_5 rfl) ?_
                          refine WL.ex rfl rfl rfl (Ex.load ty3 rfl (M111.cell (i := 0) rfl (item_39 hpo))) ?_
                          refine WL.ac rfl rfl rfl (Ac.call rfl Try.func36 nm36 rfl (rRaw_ok w111 _ _ l e _ (by omega) (M111.get (i := 3) rfl))) ?_; rintro v204 w204 ⟨w204a, T204, N204⟩
                          have M204 := (M111.turned (i := 3) rfl T204).new N204
                          try dsimp only [List.set] at M204
                          obtain ⟨A204, c204, rfl⟩ := own_slice (M204.get (i := 0) rfl)
                          refine WL.ex rfl rfl rfl (Ex.cvBS Try.underlying25 Try.underlying5 Try.underlying9 rfl (M204.rdr (i := 0) rfl)) ?_
                          refine WL.ex rfl rfl rfl (Ex.mv rfl) ?_
                          refine WL.ex rfl rfl rfl (Ex.eqS rfl rfl) ?_
                          rw [decide_eq_true rfl]
                          refine WL.ex rfl rfl rfl (Ex.asg rfl) ?_
                          refine WL.nil ?_
                          refine WX.normal_block (?_)
                          refine WX.join (()) ?_ (.cons rfl (.cons rfl (.cons rfl (.cons rfl (.cons rfl (.cons rfl (.cons rfl (.nil))))))))
                          first | exact Mem.sub M204 (.cons _ (.refl _)) | exact Mem.sub M204 (.cons _ (.cons _ (.refl _)))
                        · have hk : p.k % 7 = 6 := by omega
                          rw [ask_6 hk] at hask
                          obtain rfl : T = [] := congrArg Prod.fst hask
                          obtain rfl : S1 = rFail (l, e) (bits .and .i64 p.e 15) := congrArg Prod.snd hask
                          refine WC.region ?_
                          refine WL.ex rfl rfl rfl (Ex.mv rfl) ?_
                          refine WL.ex rfl rfl rfl (Ex.fa fl39_6 rfl) ?_
                          refine WL.ex rfl rfl rfl (Ex.load ty3 rfl (M111.cell (i := 0) rfl (item_40 hpo))) ?_
                          refine WL.ex rfl rfl rfl (Ex.band rfl rfl rfl) ?_
                          refine WL.ac rfl rfl rfl (Ac.call rfl Try.func37 nm37 rfl (rFail_ok w111 _ _ l e _ (M111.get (i := 3) rfl))) ?_; rintro v213 w213 T213
                          have M213 := M111.turned (i := 3) rfl T213
                          try dsimp only [List.set] at M213
                          refine WL.nil ?_
                          refine WX.normal_block (?_)
                          refine WX.join (()) ?_ (.cons rfl (.cons rfl (.cons rfl (.cons rfl (.cons rfl (.cons rfl (.cons rfl (.nil))))))))
                          first | exact Mem.sub M213 (.cons _ (.refl _)) | exact Mem.sub M213 (.cons _ (.cons _ (.refl _)))
            · rintro _ w214 M214
              refine WC.seq ?_
              refine WC.region ?_
              refine WL.ex rfl rfl rfl (Ex.fa fl53_1 rfl) ?_
              refine WL.ex rfl rfl rfl (Ex.load ty3 rfl (M214.cell (i := 1) (v := .int .i64 S1.2) rfl rfl)) ?_
              obtain ⟨Z, hZ⟩ : ∃ Z : Int, Z = if S1.2 = 0 ∧ S1.1 ≠ [] then 5 else S1.2 := ⟨_, rfl⟩
              refine WL.ex rfl rfl rfl (Ex.asg rfl) ?_
              refine WL.nil ?_
              refine WX.next (?_)
              refine WC.cut (σ := Unit) (fun _ => [(53, .slice (some ⟨b0, o0, none⟩) its.length c), (54, .int .i64 (its.length : Int)), (55, .int .i64 (i : Int)), (6, .pointer (some ⟨gr, 0, none⟩)), (8, .pointer (some ⟨g8, 0, none⟩)), (9, .slice (some ⟨gs, 0, none⟩) 5 5), (15, .bool true), (18, .int .i64 Z)]) (fun _ wr => Mem w wr nof [blk gs [.int .i64 1, .int .i64 4, .int .i64 8, .int .i64 32, .int .i64 32] 3, blk g8 [str S1.1, .int .i64 S1.2] 53, rdR gr D S1]) ?_ ?_
              ·
                refine WC.seq ?_
                refine WC.region ?_
                refine WL.ex rfl rfl rfl (Ex.mv rfl) ?_
                refine WL.ex rfl rfl rfl (Ex.eqI rfl rfl) ?_
                by_cases hz : S1.2 = 0
                · rw [decide_eq_true hz]
                  refine WL.ex rfl rfl rfl (Ex.mv rfl) ?_
                  refine WL.yes rfl rfl rfl rfl ?_
                  refine WL.ex rfl rfl rfl (Ex.fa fl53_0 rfl) ?_
                  refine WL.yes rfl rfl rfl rfl ?_
                  refine WL.ex rfl rfl rfl (Ex.load ty9 rfl (M214.cell (i := 1) (v := str S1.1) rfl rfl)) ?_
                  refine WL.yes rfl rfl rfl rfl ?_
                  refine WL.ex rfl rfl rfl (Ex.neS rfl rfl) ?_
                  refine WL.ex rfl rfl rfl (Ex.pickT rfl rfl) ?_
                  refine WL.nil ?_
                  refine WX.next (?_)
                  refine WC.cond rfl (fun hq => ?_) (fun hq => ?_)
                  · obtain rfl : Z = 5 := by rw [hZ, if_pos ⟨hz, by simpa using hq⟩]
                    refine WC.region ?_
                    refine WL.ex rfl rfl rfl (Ex.asg rfl) ?_
                    refine WL.nil ?_
                    refine WX.join (()) ?_ (.cons rfl (.cons rfl (.cons rfl (.cons rfl (.cons rfl (.cons rfl (.cons rfl (.cons rfl (.nil)))))))))
                    exact M214
                  · obtain rfl : Z = S1.2 := by rw [hZ, if_neg (fun h => h.2 (by simpa using hq))]
                    refine WC.skip ?_
                    refine WX.join (()) ?_ (.cons rfl (.cons rfl (.cons rfl (.cons rfl (.cons rfl (.cons rfl (.cons rfl (.cons rfl (.nil)))))))))
                    exact M214
                · rw [decide_eq_false hz]
                  obtain rfl : Z = S1.2 := by rw [hZ, if_neg (fun h => hz h.1)]
                  refine WL.ex rfl rfl rfl (Ex.mv rfl) ?_
                  refine WL.no rfl rfl rfl rfl rfl rfl ?_
                  refine WL.no rfl rfl rfl rfl rfl rfl ?_
                  refine WL.no rfl rfl rfl rfl rfl rfl ?_
                  refine WL.ex rfl rfl rfl (Ex.pickF rfl rfl) ?_
                  refine WL.nil ?_
                  refine WX.next (?_)
                  refine WC.no rfl ?_
                  refine WC.skip ?_
                  refine WX.join (()) ?_ (.cons rfl (.cons rfl (.cons rfl (.cons rfl (.cons rfl (.cons rfl (.cons rfl (.cons rfl (.nil)))))))))
                  exact M214
              · rintro _ w228 M228
                refine WC.seq ?_
                refine WC.draw (Keep nof w228.drew) [] [(0, 0), (1, 0), (2, 0), (3, 0), (5, 0), (6, 1), (7, 0), (4, 2), (8, 0), (9, 0), (10, 0), (11, 0), (13, 0), (14, 1), (12, 2), (15, 0), (16, 0), (17, 0), (18, 0), (20, 0), (19, 2), (21, 0), (22, 0)] mixed (by kernel_rfl) rfl (by kernel_rfl) (HQ.then_ (HQ.block (HQ.then_ (HQ.then_ (HQ.block (HQ.then_ HQ.body)))))) ?_
                obtain ⟨w229, hw229⟩ : ∃ v, v = w228.drew := ⟨_, rfl⟩
                have D229 : Keep nof w228 w229 := by rw [hw229]; exact Keep.drew _ _
                have M229 := M228.step D229
                rw [← hw229]; clear hw229
                refine WP.p rfl rfl rfl rfl (fun _ => Ex.mv rfl) ?_
                
                refine WP.p rfl rfl rfl rfl (fun _ => Ex.not rfl) ?_
                refine WP.p rfl rfl rfl rfl (fun _ => Ex.mv rfl) ?_
                refine WP.py rfl rfl rfl rfl rfl rfl (fun _ => Ex.mv rfl) ?_
                refine WP.py rfl rfl rfl rfl rfl rfl (fun _ => Ex.fa fl53_0 rfl) ?_
                refine WP.qy (Keep.refl _ _) rfl rfl rfl rfl rfl rfl (fun w' hS => Ex.load ty9 rfl (hS.cell (M229.cell (i := 1) (v := str S1.1) rfl rfl) (fun f => f))) ?_
                refine WP.py rfl rfl rfl rfl rfl rfl (fun _ => Ex.lenS Try.underlying9 rfl) ?_
                refine WP.ay rfl rfl rfl rfl rfl rfl (Ac.call rfl Try.func38 nm38 rfl (rLeft_ok w229 _ _ S1.1 S1.2 (M229.get (i := 2) rfl))) ?_; rintro v237 w237 ⟨rfl, rfl⟩; refine .inr ⟨fun h => h.trans (Keep.refl _ _), ?_⟩
                refine WP.py rfl rfl rfl rfl rfl rfl (fun _ => Ex.neI rfl rfl) ?_
                rw [decide_eq_true rfl]
                refine WP.p rfl rfl rfl rfl (fun _ => Ex.pickF rfl rfl) ?_
                refine WP.p rfl rfl rfl rfl (fun _ => Ex.mv rfl) ?_
                refine WP.py rfl rfl rfl rfl rfl rfl (fun _ => Ex.mv rfl) ?_
                refine WP.py rfl rfl rfl rfl rfl rfl (fun _ => Ex.fa fl53_1 rfl) ?_
                refine WP.qy ((Keep.refl _ _).trans (Keep.refl _ _)) rfl rfl rfl rfl rfl rfl (fun w' hS => Ex.load ty3 rfl (hS.cell (M229.cell (i := 1) (v := .int .i64 S1.2) rfl rfl) (fun f => f))) ?_
                refine WP.ay rfl rfl rfl rfl rfl rfl (Ac.call rfl Try.func39 nm39 rfl (rErr_ok w237 _ _ S1.1 S1.2 (M229.get (i := 2) rfl))) ?_; rintro v244 w244 ⟨rfl, rfl⟩; refine .inr ⟨fun h => h.trans (Keep.refl _ _), ?_⟩
                refine WP.py rfl rfl rfl rfl rfl rfl (fun _ => Ex.neI rfl rfl) ?_
                rw [decide_eq_true rfl]
                refine WP.p rfl rfl rfl rfl (fun _ => Ex.pickF rfl rfl) ?_
                refine WP.p rfl rfl rfl rfl (fun _ => Ex.mv rfl) ?_
                refine WP.py rfl rfl rfl rfl rfl rfl (fun _ => Ex.mv rfl) ?_
                refine WP.py rfl rfl rfl rfl rfl rfl (fun _ => Ex.mv rfl) ?_
                refine WP.ay rfl rfl rfl rfl rfl rfl (Ac.call rfl Try.func40 nm40 rfl (rEnd_ok w244 _ _ S1.1 S1.2 (M229.get (i := 2) rfl))) ?_; rintro v250 w250 ⟨rfl, rfl⟩; refine .inr ⟨fun h => h.trans (Keep.refl _ _), ?_⟩
                refine WP.py rfl rfl rfl rfl rfl rfl (fun _ => Ex.neI rfl rfl) ?_
                rw [decide_eq_true hZ.symm]
                refine WP.p rfl rfl rfl rfl (fun _ => Ex.pickF rfl rfl) ?_
                refine WP.nil ?_
                refine WX.next (?_)
                refine WC.no rfl ?_
                refine WC.skip ?_
                refine WX.normal_block (WX.next (?_))
                refine WC.region ?_
                refine WL.ex rfl rfl rfl (Ex.add rfl rfl (i64w _ (by omega) (by omega))) ?_
                refine WL.ex rfl rfl rfl (Ex.mv rfl) ?_
                refine WL.nil ?_
                refine WX.again (i + 1) ?_ ?_ (.cons rfl (.cons rfl (.cons rfl (.cons rfl (.cons rfl (.cons rfl (.nil)))))))
                · (try dsimp only); omega
                · exact ⟨by omega, S1, hI1, M229⟩
        · skip
          refine WC.exit ?_
          refine WX.exit_then (WX.exit_then (WX.exit_block (WX.next (?_))))
          refine WC.seq ?_
          refine WC.region ?_
          refine WL.ex rfl rfl rfl (Ex.asg rfl) ?_
          refine WL.nil ?_
          refine WX.next (?_)
          refine WC.ret ?_
          refine WX.ret1 rfl rfl ?_
          exact ⟨rfl, M49.keep⟩
  · rw [decide_eq_false hf]
    refine WL.yes rfl rfl rfl rfl ?_
    refine WL.ex rfl rfl rfl (Ex.not rfl) ?_
    refine WL.ex rfl rfl rfl (Ex.pickF rfl rfl) ?_
    refine WL.ex rfl rfl rfl (Ex.mv rfl) ?_
    refine WL.no rfl rfl rfl rfl rfl rfl ?_
    refine WL.no rfl rfl rfl rfl rfl rfl ?_
    refine WL.no rfl rfl rfl rfl rfl rfl ?_
    refine WL.ex rfl rfl rfl (Ex.pickT rfl rfl) ?_
    refine WL.nil ?_
    refine WX.next (?_)
    refine WC.yes rfl ?_
    refine WC.seq ?_
    refine WC.region ?_
    refine WL.ac rfl rfl rfl (Ac.call rfl Try.func16 nm16 rfl (lives04_ok w6)) ?_; rintro v260 w260 ⟨rfl, K260⟩
    have M260 := M6.step K260
    refine WL.ex rfl rfl rfl (Ex.asg rfl) ?_
    refine WL.nil ?_
    refine WX.next (?_)
    refine WC.ret ?_
    refine WX.ret_then (?_)
    refine WX.ret1 rfl rfl ?_
    exact ⟨rfl, M260.keep⟩

end Go.Proofs.Ytpngjgcbdaogmaa
