/- Walks, written by gen.py off the translation's own print: each says what the Go function comes to. -/
import Derived.Test.YtpngjgcbdaogmaaWu
set_option linter.unusedVariables false
set_option linter.unusedSimpArgs false
namespace Go.Proofs.Ytpngjgcbdaogmaa
open Go.Sx Go.RowKit
attribute [local irreducible] Ac Ex WL WC WX WP Gives

/-- An event off its bytes, the first 113. -/
def evOf (b : List UInt8) : Ev := ⟨beVal (b.take 1), beVal ((b.drop 1).take 8), (b.drop 9).take 32, beVal ((b.drop 41).take 1), beVal ((b.drop 42).take 1), beVal ((b.drop 43).take 1), beVal ((b.drop 44).take 1), ofB ((b.drop 45).take 32), ofB ((b.drop 77).take 32), beVal ((b.drop 109).take 4)⟩

/- sponsion/event.get -/
theorem eGet_walk (w : World) (g : Nat) (D : List Nat) (l : List UInt8) (h : (rdR g D (l, 0)).sat w) :
    Gives Try.prog 67 #[.pointer (some ⟨g, 0, none⟩)] w fun u w1 => ∃ o1 o2 o3 o4 o5 o6 o7 o8 o9 o10 l1 l2 l3 l4 l5 l6 l7 l8 l9 l10 e1 e2 e3 e4 e5 e6 e7 e8 e9 e10,
      (o1, (l1, e1)) = rTake ((l, 0) : RS) 1 ∧ (o2, (l2, e2)) = rTake (l1, e1) 8 ∧ (o3, (l3, e3)) = rTake (l2, e2) 32 ∧ (o4, (l4, e4)) = rTake (l3, e3) 1 ∧ (o5, (l5, e5)) = rTake (l4, e4) 1 ∧ (o6, (l6, e6)) = rTake (l5, e5) 1 ∧ (o7, (l7, e7)) = rTake (l6, e6) 1 ∧ (o8, (l8, e8)) = rTake (l7, e7) 32 ∧ (o9, (l9, e9)) = rTake (l8, e8) 32 ∧ (o10, (l10, e10)) = rTake (l9, e9) 4 ∧
      EvOk ⟨beVal o1, beVal o2, hash32 o3, beVal o4, beVal o5, beVal o6, beVal o7, rInt o8, rInt o9, beVal o10⟩ ∧ u = .agg (evC ⟨beVal o1, beVal o2, hash32 o3, beVal o4, beVal o5, beVal o6, beVal o7, rInt o8, rInt o9, beVal o10⟩).toArray ∧ Turn w w1 (rdR g D (l, 0)) (rdR g D (l10, e10)) := by
  have M0 := Mem.begin h
  refine Gives.enter (n := 24) Try.func67 rfl Try.ntmps67 rfl (env := [(0, .pointer (some ⟨g, 0, none⟩))]) rfl ?_
  refine WC.seq ?_
  refine WC.region ?_
  refine WL.ac rfl rfl rfl (Ac.alloc M0 (l := evC ev0) (by kernel_rfl)) ?_; rintro v1 w1 ⟨go, rfl, hg1, K1, M1⟩
  refine WL.nil ?_
  refine WX.next (?_)
  refine WC.seq ?_
  refine WC.region ?_
  refine WL.ex rfl rfl rfl (Ex.mv rfl) ?_
  refine WL.ac rfl rfl rfl (Ac.call rfl Try.func29 nm29 rfl (rU8_ok w1 _ _ l 0 (M1.get (i := 1) rfl))) ?_; rintro v3 w3 ⟨rfl, T3⟩
  have hl1 := rTake_len ((l, 0) : RS) 1
  obtain ⟨⟨o1, l1, e1⟩, hp1⟩ : ∃ p, p = rTake ((l, 0) : RS) 1 := ⟨_, rfl⟩
  rw [← hp1] at T3 hl1 ⊢
  dsimp only at hl1
  have M3 := M1.turned (i := 1) rfl T3
  try dsimp only [List.set] at M3
  refine WL.ex rfl rfl rfl (Ex.mv rfl) ?_
  refine WL.ac rfl rfl rfl (Ac.call rfl Try.func32 nm32 rfl (rU64_ok w3 _ _ l1 e1 (M3.get (i := 1) rfl))) ?_; rintro v5 w5 ⟨rfl, T5⟩
  have hl2 := rTake_len (l1, e1) 8
  obtain ⟨⟨o2, l2, e2⟩, hp2⟩ : ∃ p, p = rTake (l1, e1) 8 := ⟨_, rfl⟩
  rw [← hp2] at T5 hl2 ⊢
  dsimp only at hl2
  have M5 := M3.turned (i := 1) rfl T5
  try dsimp only [List.set] at M5
  refine WL.ex rfl rfl rfl (Ex.mv rfl) ?_
  refine WL.ac rfl rfl rfl (Ac.call rfl Try.func35 nm35 rfl (rHash_ok w5 _ _ l2 e2 (M5.get (i := 1) rfl))) ?_; rintro v7 w7 ⟨rfl, T7⟩
  have hl3 := rTake_len (l2, e2) 32
  obtain ⟨⟨o3, l3, e3⟩, hp3⟩ : ∃ p, p = rTake (l2, e2) 32 := ⟨_, rfl⟩
  rw [← hp3] at T7 hl3 ⊢
  dsimp only at hl3
  have M7 := M5.turned (i := 1) rfl T7
  try dsimp only [List.set] at M7
  refine WL.ex rfl rfl rfl (Ex.mv rfl) ?_
  refine WL.ac rfl rfl rfl (Ac.call rfl Try.func29 nm29 rfl (rU8_ok w7 _ _ l3 e3 (M7.get (i := 1) rfl))) ?_; rintro v9 w9 ⟨rfl, T9⟩
  have hl4 := rTake_len (l3, e3) 1
  obtain ⟨⟨o4, l4, e4⟩, hp4⟩ : ∃ p, p = rTake (l3, e3) 1 := ⟨_, rfl⟩
  rw [← hp4] at T9 hl4 ⊢
  dsimp only at hl4
  have M9 := M7.turned (i := 1) rfl T9
  try dsimp only [List.set] at M9
  refine WL.ex rfl rfl rfl (Ex.mv rfl) ?_
  refine WL.ac rfl rfl rfl (Ac.call rfl Try.func29 nm29 rfl (rU8_ok w9 _ _ l4 e4 (M9.get (i := 1) rfl))) ?_; rintro v11 w11 ⟨rfl, T11⟩
  have hl5 := rTake_len (l4, e4) 1
  obtain ⟨⟨o5, l5, e5⟩, hp5⟩ : ∃ p, p = rTake (l4, e4) 1 := ⟨_, rfl⟩
  rw [← hp5] at T11 hl5 ⊢
  dsimp only at hl5
  have M11 := M9.turned (i := 1) rfl T11
  try dsimp only [List.set] at M11
  refine WL.ex rfl rfl rfl (Ex.mv rfl) ?_
  refine WL.ac rfl rfl rfl (Ac.call rfl Try.func29 nm29 rfl (rU8_ok w11 _ _ l5 e5 (M11.get (i := 1) rfl))) ?_; rintro v13 w13 ⟨rfl, T13⟩
  have hl6 := rTake_len (l5, e5) 1
  obtain ⟨⟨o6, l6, e6⟩, hp6⟩ : ∃ p, p = rTake (l5, e5) 1 := ⟨_, rfl⟩
  rw [← hp6] at T13 hl6 ⊢
  dsimp only at hl6
  have M13 := M11.turned (i := 1) rfl T13
  try dsimp only [List.set] at M13
  refine WL.ex rfl rfl rfl (Ex.mv rfl) ?_
  refine WL.ac rfl rfl rfl (Ac.call rfl Try.func29 nm29 rfl (rU8_ok w13 _ _ l6 e6 (M13.get (i := 1) rfl))) ?_; rintro v15 w15 ⟨rfl, T15⟩
  have hl7 := rTake_len (l6, e6) 1
  obtain ⟨⟨o7, l7, e7⟩, hp7⟩ : ∃ p, p = rTake (l6, e6) 1 := ⟨_, rfl⟩
  rw [← hp7] at T15 hl7 ⊢
  dsimp only at hl7
  have M15 := M13.turned (i := 1) rfl T15
  try dsimp only [List.set] at M15
  refine WL.ex rfl rfl rfl (Ex.mv rfl) ?_
  refine WL.ac rfl rfl rfl (Ac.call rfl Try.func33 nm33 rfl (rInt_ok w15 _ _ l7 e7 (M15.get (i := 1) rfl))) ?_; rintro v17 w17 ⟨rfl, T17⟩
  have hl8 := rTake_len (l7, e7) 32
  obtain ⟨⟨o8, l8, e8⟩, hp8⟩ : ∃ p, p = rTake (l7, e7) 32 := ⟨_, rfl⟩
  rw [← hp8] at T17 hl8 ⊢
  dsimp only at hl8
  have M17 := M15.turned (i := 1) rfl T17
  try dsimp only [List.set] at M17
  refine WL.ex rfl rfl rfl (Ex.mv rfl) ?_
  refine WL.ac rfl rfl rfl (Ac.call rfl Try.func33 nm33 rfl (rInt_ok w17 _ _ l8 e8 (M17.get (i := 1) rfl))) ?_; rintro v19 w19 ⟨rfl, T19⟩
  have hl9 := rTake_len (l8, e8) 32
  obtain ⟨⟨o9, l9, e9⟩, hp9⟩ : ∃ p, p = rTake (l8, e8) 32 := ⟨_, rfl⟩
  rw [← hp9] at T19 hl9 ⊢
  dsimp only at hl9
  have M19 := M17.turned (i := 1) rfl T19
  try dsimp only [List.set] at M19
  refine WL.ex rfl rfl rfl (Ex.mv rfl) ?_
  refine WL.ac rfl rfl rfl (Ac.call rfl Try.func31 nm31 rfl (rU32_ok w19 _ _ l9 e9 (M19.get (i := 1) rfl))) ?_; rintro v21 w21 ⟨rfl, T21⟩
  have hl10 := rTake_len (l9, e9) 4
  obtain ⟨⟨o10, l10, e10⟩, hp10⟩ : ∃ p, p = rTake (l9, e9) 4 := ⟨_, rfl⟩
  rw [← hp10] at T21 hl10 ⊢
  dsimp only at hl10
  have M21 := M19.turned (i := 1) rfl T21
  try dsimp only [List.set] at M21
  have hX : EvOk ⟨beVal o1, beVal o2, hash32 o3, beVal o4, beVal o5, beVal o6, beVal o7, rInt o8, rInt o9, beVal o10⟩ := ⟨Nat.lt_of_lt_of_le (beVal_lt_of hl1) (by decide), Nat.lt_of_lt_of_le (beVal_lt_of hl2) (by decide), hash32_len hl3, Nat.lt_of_lt_of_le (beVal_lt_of hl4) (by decide), Nat.lt_of_lt_of_le (beVal_lt_of hl5) (by decide), Nat.lt_of_lt_of_le (beVal_lt_of hl6) (by decide), Nat.lt_of_lt_of_le (beVal_lt_of hl7) (by decide), rInt_ok4 _, rInt_ok4 _, Nat.lt_of_lt_of_le (beVal_lt_of hl10) (by decide)⟩
  refine WL.ex rfl rfl rfl (Ex.bldS bd92 (parts := [(0, .tmp 4), (1, .tmp 6), (2, .tmp 8), (3, .tmp 10), (4, .tmp 12), (5, .tmp 14), (6, .tmp 16), (7, .tmp 18), (8, .tmp 20), (9, .tmp 22)]) _ rfl rfl rfl (bldEv (k := beVal o1) (b := beVal o2) (id := hash32 o3) (sd := beVal o4) (tk := beVal o5) (fr := beVal o6) (to := beVal o7) (am := rInt o8) (fe := rInt o9) (bt := beVal o10) (hash32_len hl3) (rInt_len _) (rInt_len _))) ?_
  refine WL.ac0 rfl rfl (Ac.stA M21 ty92 rfl rfl (vs := evC ⟨beVal o1, beVal o2, hash32 o3, beVal o4, beVal o5, beVal o6, beVal o7, rInt o8, rInt o9, beVal o10⟩) rfl (ev_len hX) ev_one (i := 0) rfl (by rw [ev_len hX, ev_len ev0_ok]; decide)) ?_; rintro v23 w23 ⟨K23, M23⟩
  try dsimp only [List.set] at M23
  rw [splice_all _ _ (by rw [ev_len hX, ev_len ev0_ok])] at M23
  refine WL.nil ?_
  refine WX.next (?_)
  refine WC.ret ?_
  refine WX.retc rfl rfl (run_loadVarA ty92 (by exact ev_len hX) (M23.rdw (i := 0) rfl)) ?_
  exact ⟨_, _, _, _, _, _, _, _, _, _, _, _, _, _, _, _, _, _, _, _, _, _, _, _, _, _, _, _, _, _, (by first | exact hp1 | rfl), hp2, hp3, hp4, hp5, hp6, hp7, hp8, hp9, hp10, hX, rfl, (Mem.sub M23 (.cons _ (.refl _))).toTurn⟩

end Go.Proofs.Ytpngjgcbdaogmaa
