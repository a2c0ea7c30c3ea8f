/- Walks, written by gen.py off the translation's own print: each says what the Go function comes to. -/
import Derived.Test.YtpngjgcbdaogmaaZc
set_option linter.unusedVariables false
set_option linter.unusedSimpArgs false
namespace Go.Proofs.Ytpngjgcbdaogmaa
open Go.Sx Go.RowKit
attribute [local irreducible] Ac Ex WL WC WX WP Gives

theorem blk_row {w : World} {g n sz : Nat} {l : List Value} {e : TypeId} (h : (blk g l e).sat w) (hl : l.length = n * sz) (hn : n ≤ maxLen) : (row (.slice (some ⟨g, 0, none⟩) n n) e sz n l).sat w :=
  ⟨hl, .inr ⟨g, n, l.toArray, rfl, Nat.zero_le _, h, Nat.le_refl _, hn, by simpa using hl, by simp [← hl]⟩⟩
theorem Mem.brow {w0 w : World} {F : Nat → Prop} {rs : List Res} {i g sz : Nat} {l : List Value} {e : TypeId} (M : Mem w0 w F rs) (n : Nat) (hi : rs[i]? = some (blk g l e)) (hl : l.length = n * sz) (hn : n ≤ maxLen) : Mem w0 w F (rs.set i (row (.slice (some ⟨g, 0, none⟩) n n) e sz n l)) :=
  M.turn hi (Keep.refl _ _) (blk_row (M.get hi) hl hn) (fun b hb => .inl hb)
theorem eBytes_or (w : World) (A : Option Addr) (c : Nat) (es : List Ev) (hr : RdE w A es) (hb : es.length ≤ 1000000) :
    Gives Try.prog 49 #[.slice A es.length c] w fun u w1 => ∃ v L, ∃ E : Int, u = .tuple #[v, .int .i64 E] ∧ New w w1 (row v 5 1 L.length (bytesV L)) ∧ ((∀ t ∈ es, mayE t) → L = es.flatMap evB ∧ E = 0) ∧ ((¬ ∀ t ∈ es, mayE t) → L = [] ∧ E = 6) := by
  refine (eBytes_ok w A c es hr hb).mono fun u w1 h => ?_
  by_cases hm : ∀ t ∈ es, mayE t
  · rw [if_pos hm] at h
    obtain ⟨v, h1, h2⟩ := h
    exact ⟨v, _, 0, h1, h2, fun _ => ⟨rfl, rfl⟩, fun f => absurd hm f⟩
  · rw [if_neg hm] at h
    obtain ⟨h1, h2⟩ := h
    exact ⟨_, [], 6, h1, ((((Mem.start w nof).step h2).free (r := row (.slice none 0 0) 5 1 ([] : List UInt8).length (bytesV [])) (row_nil _ _ _) rfl).toNew), fun f => absurd f hm, fun _ => ⟨rfl, rfl⟩⟩

/- sponsion/sponsionlaw09.EventReads -/
theorem eventReads_walk (w : World) (A : Option Addr) (c : Nat) (bl : List UInt8) (hr : Rd w A (bytesV bl)) :
    Gives Try.prog 10 #[.slice A bl.length c] w fun u w1 => u = .bool true ∧ Keep nof w w1 := by
  have M0 := Mem.start w nof
  have hok := eAll_ok bl
  have hln := eAll_len bl
  obtain ⟨⟨es, E⟩, hXE⟩ : ∃ p, p = eAll bl := ⟨_, rfl⟩
  rw [← hXE] at hok hln
  dsimp only at hok hln
  refine Gives.enter (n := 53) Try.func10 rfl Try.ntmps10 rfl (env := [(0, .slice A bl.length c)]) rfl ?_
  refine WC.seq ?_
  refine WC.region ?_
  refine WL.ex rfl rfl rfl (Ex.asg rfl) ?_
  refine WL.nil ?_
  refine WX.next (?_)
  refine WC.seq ?_
  refine WC.seq ?_
  refine WC.region ?_
  refine WL.ac rfl rfl rfl (Ac.call rfl Try.func48 nm48 rfl (lives09_ok w)) ?_; rintro v2 w2 ⟨rfl, K2⟩
  have M2 := M0.step K2
  refine WL.ex rfl rfl rfl (Ex.not rfl) ?_
  refine WL.ex rfl rfl rfl (Ex.mv rfl) ?_
  refine WL.yes rfl rfl rfl rfl ?_
  refine WL.ex rfl rfl rfl (Ex.mv rfl) ?_
  refine WL.yes rfl rfl rfl rfl ?_
  refine WL.ex rfl rfl rfl (Ex.len Try.underlying25 rfl) ?_
  refine WL.yes rfl rfl rfl rfl ?_
  refine WL.ex rfl rfl rfl (Ex.gtr rfl rfl) ?_
  refine WL.ex rfl rfl rfl (Ex.pickF rfl rfl) ?_
  refine WL.nil ?_
  refine WX.next (?_)
  refine WC.cond_dec rfl (fun hc15 => ?_) (fun hc15 => ?_)
  · skip
    refine WC.seq ?_
    refine WC.region ?_
    refine WL.ac rfl rfl rfl (Ac.call rfl Try.func48 nm48 rfl (lives09_ok w2)) ?_; rintro v9 w9 ⟨rfl, K9⟩
    have M9 := M2.step K9
    refine WL.ex rfl rfl rfl (Ex.asg rfl) ?_
    refine WL.nil ?_
    refine WX.next (?_)
    refine WC.ret ?_
    refine WX.ret_then (?_)
    refine WX.ret1 rfl rfl ?_
    exact ⟨rfl, M9.keep⟩
  · have hbl : bl.length ≤ 1000 := by omega
    refine WC.skip ?_
    refine WX.next (?_)
    refine WC.seq ?_
    refine WC.region ?_
    refine WL.ex rfl rfl rfl (Ex.mv rfl) ?_
    refine WL.ac rfl rfl rfl (Ac.call rfl Try.func54 nm54 rfl (eRead_walk w2 _ _ _ (M2.rd hr) (by omega))) ?_; rintro v12 w12 ⟨v12, rfl, N12⟩
    rw [← hXE] at N12 ⊢
    dsimp only at N12
    have M12 := M2.new N12
    obtain ⟨A1, c1, rfl⟩ := own_slice (M12.get (i := 0) rfl)
    refine WL.ex rfl rfl rfl (Ex.mv rfl) ?_
    refine WL.ex rfl rfl rfl (Ex.ext rfl rfl) ?_
    refine WL.ex rfl rfl rfl (Ex.ext rfl rfl) ?_
    refine WL.ex rfl rfl rfl (Ex.asg rfl) ?_
    refine WL.ex rfl rfl rfl (Ex.asg rfl) ?_
    refine WL.nil ?_
    refine WX.next (?_)
    refine WC.seq ?_
    refine WC.region ?_
    refine WL.ex rfl rfl rfl (Ex.mv rfl) ?_
    refine WL.ex rfl rfl rfl (Ex.cvBS Try.underlying25 Try.underlying5 Try.underlying9 rfl (M12.rd hr)) ?_
    refine WL.ac rfl rfl rfl (Ac.call rfl Try.func56 nm56 rfl (ref9Read_walk w12 bl (by omega))) ?_; rintro v20 w20 ⟨v20, rfl, N20⟩
    rw [← hXE] at N20 ⊢
    dsimp only at N20
    have M20 := M12.new N20
    obtain ⟨A2, c2, rfl⟩ := own_slice (M20.get (i := 0) rfl)
    refine WL.ex rfl rfl rfl (Ex.mv rfl) ?_
    refine WL.ex rfl rfl rfl (Ex.ext rfl rfl) ?_
    refine WL.ex rfl rfl rfl (Ex.ext rfl rfl) ?_
    refine WL.ex rfl rfl rfl (Ex.asg rfl) ?_
    refine WL.ex rfl rfl rfl (Ex.asg rfl) ?_
    refine WL.nil ?_
    refine WX.next (?_)
    refine WC.seq ?_
    refine WC.seq ?_
    refine WC.region ?_
    refine WL.ex rfl rfl rfl (Ex.mv rfl) ?_
    refine WL.ex rfl rfl rfl (Ex.mv rfl) ?_
    refine WL.ex rfl rfl rfl (Ex.neI rfl rfl) ?_
    rw [show (!decide (E = E)) = false by simp]
    refine WL.ex rfl rfl rfl (Ex.mv rfl) ?_
    refine WL.yes rfl rfl rfl rfl ?_
    refine WL.ex rfl rfl rfl (Ex.mv rfl) ?_
    refine WL.yes rfl rfl rfl rfl ?_
    refine WL.ex rfl rfl rfl (Ex.mv rfl) ?_
    refine WL.yes rfl rfl rfl rfl ?_
    refine WL.ac rfl rfl rfl (Ac.call rfl Try.func55 nm55 rfl (same_ok w20 _ _ _ _ _ _ ⟨M20.rdr (i := 1) rfl, hok⟩ ⟨M20.rdr (i := 0) rfl, hok⟩ (by omega) (by omega))) ?_; rintro v32 w32 ⟨rfl, K32⟩
    rw [decide_eq_true rfl]
    have M32 := M20.step K32
    refine WL.yes rfl rfl rfl rfl ?_
    refine WL.ex rfl rfl rfl (Ex.not rfl) ?_
    refine WL.ex rfl rfl rfl (Ex.pickF rfl rfl) ?_
    refine WL.nil ?_
    refine WX.next (?_)
    refine WC.no rfl ?_
    refine WC.skip ?_
    refine WX.next (?_)
    refine WC.seq ?_
    refine WC.seq ?_
    refine WC.region ?_
    refine WL.ex rfl rfl rfl (Ex.mv rfl) ?_
    refine WL.ex rfl rfl rfl (Ex.neI rfl rfl) ?_
    refine WL.nil ?_
    refine WX.next (?_)
    refine WC.cond rfl (fun hE => ?_) (fun hE => ?_)
    · skip
      refine WC.seq ?_
      refine WC.region ?_
      refine WL.ex rfl rfl rfl (Ex.asg rfl) ?_
      refine WL.nil ?_
      refine WX.next (?_)
      refine WC.ret ?_
      refine WX.ret_then (?_)
      refine WX.ret1 rfl rfl ?_
      exact ⟨rfl, M32.keep⟩
    · obtain rfl : E = 0 := by simpa using hE
      obtain ⟨hB, hm⟩ := eAll_of (b := bl) (by rw [← hXE])
      rw [← hXE] at hB hm
      dsimp only at hB hm
      refine WC.skip ?_
      refine WX.next (?_)
      refine WC.seq ?_
      refine WC.region ?_
      refine WL.ex rfl rfl rfl (Ex.mv rfl) ?_
      refine WL.ac rfl rfl rfl (Ac.call rfl Try.func49 nm49 rfl (eBytes_ok w32 _ _ es ⟨M32.rdr (i := 1) rfl, hok⟩ (by omega))) ?_; rintro v39 w39 hQ
      rw [if_pos hm, hB] at hQ
      obtain ⟨vb, rfl, N39⟩ := hQ
      have M39 := M32.new N39
      obtain ⟨A3, c3, rfl⟩ := own_slice (M39.get (i := 0) rfl)
      refine WL.ex rfl rfl rfl (Ex.mv rfl) ?_
      refine WL.ex rfl rfl rfl (Ex.ext rfl rfl) ?_
      refine WL.ex rfl rfl rfl (Ex.ext rfl rfl) ?_
      refine WL.ex rfl rfl rfl (Ex.asg rfl) ?_
      refine WL.ex rfl rfl rfl (Ex.asg rfl) ?_
      refine WL.nil ?_
      refine WX.next (?_)
      refine WC.seq ?_
      refine WC.region ?_
      refine WL.ex rfl rfl rfl (Ex.mv rfl) ?_
      refine WL.ex rfl rfl rfl (Ex.eqI rfl rfl) ?_
      
      refine WL.ex rfl rfl rfl (Ex.mv rfl) ?_
      refine WL.yes rfl rfl rfl rfl ?_
      refine WL.ex rfl rfl rfl (Ex.mv rfl) ?_
      refine WL.yes rfl rfl rfl rfl ?_
      refine WL.ex rfl rfl rfl (Ex.cvBS Try.underlying25 Try.underlying5 Try.underlying9 rfl (M39.rdr (i := 0) rfl)) ?_
      refine WL.yes rfl rfl rfl rfl ?_
      refine WL.ex rfl rfl rfl (Ex.mv rfl) ?_
      refine WL.yes rfl rfl rfl rfl ?_
      refine WL.ex rfl rfl rfl (Ex.cvBS Try.underlying25 Try.underlying5 Try.underlying9 rfl (M39.rd hr)) ?_
      refine WL.yes rfl rfl rfl rfl ?_
      refine WL.ex rfl rfl rfl (Ex.eqS rfl rfl) ?_
      rw [decide_eq_true rfl]
      refine WL.ex rfl rfl rfl (Ex.pickT rfl rfl) ?_
      refine WL.ex rfl rfl rfl (Ex.asg rfl) ?_
      refine WL.nil ?_
      refine WX.next (?_)
      refine WC.ret ?_
      refine WX.ret1 rfl rfl ?_
      exact ⟨rfl, M39.keep⟩

end Go.Proofs.Ytpngjgcbdaogmaa
