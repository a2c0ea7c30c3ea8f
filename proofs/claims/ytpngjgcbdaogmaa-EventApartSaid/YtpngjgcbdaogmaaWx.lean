/- Walks, written by gen.py off the translation's own print: each says what the Go function comes to. -/
import Derived.Test.YtpngjgcbdaogmaaWw
set_option linter.unusedVariables false
set_option linter.unusedSimpArgs false
namespace Go.Proofs.Ytpngjgcbdaogmaa
open Go.Sx Go.RowKit
attribute [local irreducible] Ac Ex WL WC WX WP Gives

/-- Events off bytes, one behind the other. -/
def eRead : Nat → List UInt8 → List Ev → List Ev × Int
  | 0, _, acc => (acc, 0)
  | n + 1, b, acc => if b = [] then (acc, 0) else if b.length < 113 then ([], 4) else if mayE (evOf b) then eRead n (b.drop 113) (acc ++ [evOf b]) else ([], 6)
def eAll (b : List UInt8) : List Ev × Int := eRead (b.length + 1) b []
theorem eRead_ok : ∀ (n : Nat) (b : List UInt8) (acc : List Ev), (∀ t ∈ acc, EvOk t) → ∀ t ∈ (eRead n b acc).1, EvOk t
  | 0, b, acc, h => h
  | n + 1, b, acc, h => by
    unfold eRead
    split
    · exact h
    · split
      · simp
      · rename_i h2
        split
        · refine eRead_ok n _ _ fun t ht => ?_
          rcases List.mem_append.1 ht with h3 | h3
          · exact h t h3
          · obtain rfl : t = evOf b := by simpa using h3
            exact evOf_ok (by omega)
        · simp
theorem eRead_len : ∀ (n : Nat) (b : List UInt8) (acc : List Ev), (eRead n b acc).1.length ≤ acc.length + n
  | 0, b, acc => by simp [eRead]
  | n + 1, b, acc => by
    unfold eRead
    split
    · simp only; omega
    · split
      · simp
      · split
        · have := eRead_len n (b.drop 113) (acc ++ [evOf b])
          simp only [List.length_append, List.length_cons, List.length_nil] at this
          omega
        · simp

/- sponsion/event.Read -/
theorem eRead_walk (w : World) (A : Option Addr) (c : Nat) (bl : List UInt8) (hr : Rd w A (bytesV bl)) (hb : bl.length ≤ 1000000) :
    Gives Try.prog 54 #[.slice A bl.length c] w fun u w1 => ∃ v, u = .tuple #[v, .int .i64 (eAll bl).2] ∧ New w w1 (row v 92 47 (eAll bl).1.length ((eAll bl).1.flatMap evC)) := by
  have M0 := (Mem.start w nof).free (r := row (.slice none 0 0) 92 47 0 ([])) (row_nil _ _ _) rfl
  refine Gives.enter (n := 32) Try.func54 rfl Try.ntmps54 rfl (env := [(0, .slice A bl.length c)]) rfl ?_
  refine WC.seq ?_
  refine WC.region ?_
  refine WL.ex rfl rfl rfl (Ex.asg rfl) ?_
  refine WL.ex rfl rfl rfl (Ex.asg rfl) ?_
  refine WL.nil ?_
  refine WX.next (?_)
  refine WC.seq ?_
  refine WC.region ?_
  refine WL.ex rfl rfl rfl (Ex.mv rfl) ?_
  refine WL.ac rfl rfl rfl (Ac.call rfl Try.func27 nm27 rfl (of_ok w _ _ _ (M0.rd hr) (by omega))) ?_; rintro v4 w4 ⟨gr, D, rfl, N4⟩
  have M4 := M0.new N4
  refine WL.ex rfl rfl rfl (Ex.asg rfl) ?_
  refine WL.nil ?_
  refine WX.next (?_)
  refine WC.seq ?_
  refine WC.region ?_
  refine WL.ex rfl rfl rfl (Ex.asg rfl) ?_
  refine WL.nil ?_
  refine WX.next (?_)
  refine WC.seq ?_
  refine WC.block ?_
  refine WC.loop (σ := List UInt8 × List Ev × Value) (fun s => [(4, .pointer (some ⟨gr, 0, none⟩)), (5, s.2.2)]) (fun s wr => Mem w wr nof [rdR gr D (s.1, 0), row s.2.2 92 47 s.2.1.length (s.2.1.flatMap evC)] ∧ (∀ t ∈ s.2.1, EvOk t) ∧ s.1.length + s.2.1.length ≤ bl.length ∧ ∃ f, s.1.length < f ∧ eAll bl = eRead f s.1 s.2.1) (fun s => s.1.length) (((bl, [], .slice none 0 0) : List UInt8 × List Ev × Value)) ?_ (.cons rfl (.cons rfl (.nil))) ?_
  · exact ⟨M4, by simp, by simp, _, Nat.lt_succ_self _, rfl⟩
  rintro ⟨L, acc, v⟩ w7 ⟨M7, hacc, hlen, f, hf, hE⟩
  dsimp only at M7 hacc hlen hf hE
  refine WC.sub (env' := [(4, .pointer (some ⟨gr, 0, none⟩)), (5, v)]) (.cons rfl (.cons rfl (.nil))) ?_
  refine WC.seq ?_
  refine WC.seq ?_
  refine WC.region ?_
  refine WL.ex rfl rfl rfl (Ex.mv rfl) ?_
  refine WL.ac rfl rfl rfl (Ac.call rfl Try.func38 nm38 rfl (rLeft_ok w7 _ _ _ _ (M7.get (i := 0) rfl))) ?_; rintro v9 w9 ⟨rfl, rfl⟩
  refine WL.ex rfl rfl rfl (Ex.gtr rfl rfl) ?_
  refine WL.nil ?_
  refine WX.next (?_)
  refine WC.cond_dec rfl (fun hc12 => ?_) (fun hc12 => ?_)
  · have hne : L ≠ [] := fun h => by rw [h] at hc12; simp at hc12
    obtain ⟨f, rfl⟩ : ∃ f1, f = f1 + 1 := ⟨f - 1, by omega⟩
    refine WC.skip ?_
    refine WX.next (?_)
    refine WC.block ?_
    refine WC.seq ?_
    refine WC.region ?_
    refine WL.ex rfl rfl rfl (Ex.mv rfl) ?_
    refine WL.ac rfl rfl rfl (Ac.call rfl Try.func67 nm67 rfl (eGet_walk w9 _ _ _ (M7.get (i := 0) rfl))) ?_; rintro v12 w12 hget
    obtain ⟨o1, o2, o3, o4, o5, o6, o7, o8, o9, o10, l1, l2, l3, l4, l5, l6, l7, l8, l9, l10, e1, e2, e3, e4, e5, e6, e7, e8, e9, e10, hp1, hp2, hp3, hp4, hp5, hp6, hp7, hp8, hp9, hp10, hX, rfl, T12⟩ := hget
    have M12 := M7.turned (i := 0) rfl T12
    try dsimp only [List.set] at M12
    rcases eget_law hp1 hp2 hp3 hp4 hp5 hp6 hp7 hp8 hp9 hp10 with ⟨hl, hx, rfl, rfl⟩ | ⟨hl, rfl, rfl⟩
    · rw [hx] at hX ⊢
      have hXo : EvOk (evOf L) := hX
      refine WL.ac rfl rfl rfl (Ac.alloc M12 (l := evC ev0) (by kernel_rfl)) ?_; rintro v13 w13 ⟨gx, rfl, hg13, K13, M13⟩
      refine WL.ac0 rfl rfl (Ac.stA M13 ty92 rfl rfl (vs := evC (evOf L)) rfl (ev_len hXo) ev_one (i := 0) rfl (by rw [ev_len hXo, ev_len ev0_ok]; decide)) ?_; rintro v14 w14 ⟨K14, M14⟩
      try dsimp only [List.set] at M14
      rw [splice_all _ _ (by rw [ev_len hXo, ev_len ev0_ok])] at M14
      refine WL.nil ?_
      refine WX.next (?_)
      refine WC.seq ?_
      refine WC.seq ?_
      refine WC.region ?_
      refine WL.ex rfl rfl rfl (Ex.mv rfl) ?_
      refine WL.ac rfl rfl rfl (Ac.call rfl Try.func39 nm39 rfl (rErr_ok w14 _ _ _ _ (M14.get (i := 1) rfl))) ?_; rintro v16 w16 ⟨rfl, rfl⟩
      refine WL.ex rfl rfl rfl (Ex.eqI rfl rfl) ?_
      refine WL.nil ?_
      refine WX.next (?_)
      
      refine WC.yes rfl ?_
      refine WC.region ?_
      refine WL.ex rfl rfl rfl (Ex.mv rfl) ?_
      refine WL.ex rfl rfl rfl (Ex.loadA ty92 rfl (l := evC (evOf L)) (ev_len hXo) (M14.rdw (i := 0) rfl)) ?_
      refine WL.ac rfl rfl rfl (Ac.call rfl Try.func52 nm52 rfl (eCheck_ok w16 _ hXo)) ?_; rintro v20 w20 ⟨rfl, K20⟩
      have M20 := M14.step K20
      by_cases hm : mayE (evOf L)
      · rw [if_pos hm]
        refine WL.ac rfl rfl rfl (Ac.call rfl Try.func37 nm37 rfl (rFail_ok w20 _ _ _ _ _ (M20.get (i := 1) rfl))) ?_; rintro v21 w21 T21
        rw [show rFail (L.drop 113, 0) 0 = (L.drop 113, 0) by simp [rFail]] at T21
        have M21 := M20.turned (i := 1) rfl T21
        try dsimp only [List.set] at M21
        refine WL.nil ?_
        refine WX.next (?_)
        refine WC.seq ?_
        refine WC.seq ?_
        refine WC.region ?_
        refine WL.ex rfl rfl rfl (Ex.mv rfl) ?_
        refine WL.ac rfl rfl rfl (Ac.call rfl Try.func39 nm39 rfl (rErr_ok w21 _ _ _ _ (M21.get (i := 1) rfl))) ?_; rintro v23 w23 ⟨rfl, rfl⟩
        refine WL.ex rfl rfl rfl (Ex.asg rfl) ?_
        refine WL.nil ?_
        refine WX.next (?_)
        refine WC.seq ?_
        refine WC.region ?_
        refine WL.ex rfl rfl rfl (Ex.mv rfl) ?_
        refine WL.ex rfl rfl rfl (Ex.neI rfl rfl) ?_
        refine WL.nil ?_
        refine WX.next (?_)
        
        refine WC.no rfl ?_
        refine WC.skip ?_
        refine WX.next (?_)
        refine WC.region ?_
        refine WL.ex rfl rfl rfl (Ex.mv rfl) ?_
        refine WL.ex rfl rfl rfl (Ex.loadA ty92 rfl (l := evC (evOf L)) (ev_len hXo) (M21.rdw (i := 0) rfl)) ?_
        refine WL.ac rfl rfl rfl (Ac.bs M21 (parts := [(0, .tmp 28)]) rfl rfl (LitS.agg1 el83 rfl (ev_len hXo) (by decide))) ?_; rintro v29 w29 ⟨gb, rfl, hg29, K29, M29⟩
        refine WL.ac rfl rfl rfl (Ac.app M29 el83 rfl rfl (i := 3) rfl (by rw [ev_len hXo]) (M29.rdw (i := 0) rfl) ev_one (by omega) (by simp [maxLen]; omega)) ?_; rintro v30 w30 ⟨K30, M30⟩
        try dsimp only [List.set] at M30
        refine WL.ex rfl rfl rfl (Ex.asg rfl) ?_
        refine WL.nil ?_
        refine WX.normal_block (?_)
        refine WX.again (((L.drop 113, acc ++ [evOf L], v30) : List UInt8 × List Ev × Value)) ?_ ?_ (.cons rfl (.cons rfl (.nil)))
        · simp; omega
        · refine ⟨?_, ?_, ?_, f, ?_, ?_⟩
          · dsimp only
            have Me := Mem.sub M30 (.cons _ (.cons _ (.refl _)))
            have e1 : (acc ++ [evOf L]).length = acc.length + 1 := by simp
            have e2 : (acc ++ [evOf L]).flatMap evC = acc.flatMap evC ++ evC (evOf L) := by simp
            rw [e1, e2]
            exact Me
          · dsimp only
            intro t ht
            rcases List.mem_append.1 ht with h3 | h3
            · exact hacc t h3
            · obtain rfl : t = evOf L := by simpa using h3
              exact hXo
          · simp; omega
          · simp; omega
          · dsimp only
            rw [hE, eRead, if_neg hne, if_neg (by omega), if_pos hm]
      · rw [if_neg hm]
        rw [eRead, if_neg hne, if_neg (by omega), if_neg hm] at hE
        refine WL.ac rfl rfl rfl (Ac.call rfl Try.func37 nm37 rfl (rFail_ok w20 _ _ _ _ _ (M20.get (i := 1) rfl))) ?_; rintro v32 w32 T32
        rw [show rFail (L.drop 113, 0) 6 = ([], 6) by simp [rFail]] at T32
        have M32 := M20.turned (i := 1) rfl T32
        try dsimp only [List.set] at M32
        refine WL.nil ?_
        refine WX.next (?_)
        refine WC.seq ?_
        refine WC.seq ?_
        refine WC.region ?_
        refine WL.ex rfl rfl rfl (Ex.mv rfl) ?_
        refine WL.ac rfl rfl rfl (Ac.call rfl Try.func39 nm39 rfl (rErr_ok w32 _ _ _ _ (M32.get (i := 1) rfl))) ?_; rintro v34 w34 ⟨rfl, rfl⟩
        refine WL.ex rfl rfl rfl (Ex.asg rfl) ?_
        refine WL.nil ?_
        refine WX.next (?_)
        refine WC.seq ?_
        refine WC.region ?_
        refine WL.ex rfl rfl rfl (Ex.mv rfl) ?_
        refine WL.ex rfl rfl rfl (Ex.neI rfl rfl) ?_
        refine WL.nil ?_
        refine WX.next (?_)
        
        refine WC.yes rfl ?_
        refine WC.seq ?_
        refine WC.region ?_
        refine WL.ex rfl rfl rfl (Ex.mv rfl) ?_
        refine WL.ex rfl rfl rfl (Ex.asg rfl) ?_
        refine WL.ex rfl rfl rfl (Ex.asg rfl) ?_
        refine WL.nil ?_
        refine WX.next (?_)
        refine WC.ret ?_
        refine WX.ret_then (WX.ret_block (WX.ret_then (WX.ret_block (WX.ret_then (?_)))))
        refine WX.ret2 rfl rfl rfl ?_
        rw [hE]
        exact ⟨_, rfl, ((Mem.sub M32 (List.nil_sublist _)).free (r := row (.slice none 0 0) 92 47 0 ([])) (row_nil _ _ _) rfl).toNew⟩
    · obtain ⟨X, hXX⟩ : ∃ X : Ev, X = ⟨beVal o1, beVal o2, hash32 o3, beVal o4, beVal o5, beVal o6, beVal o7, rInt o8, rInt o9, beVal o10⟩ := ⟨_, rfl⟩
      rw [← hXX] at hX ⊢
      have hXo : EvOk X := hX
      rw [eRead, if_neg hne, if_pos hl] at hE
      refine WL.ac rfl rfl rfl (Ac.alloc M12 (l := evC ev0) (by kernel_rfl)) ?_; rintro v41 w41 ⟨gx, rfl, hg41, K41, M41⟩
      refine WL.ac0 rfl rfl (Ac.stA M41 ty92 rfl rfl (vs := evC X) rfl (ev_len hXo) ev_one (i := 0) rfl (by rw [ev_len hXo, ev_len ev0_ok]; decide)) ?_; rintro v42 w42 ⟨K42, M42⟩
      try dsimp only [List.set] at M42
      rw [splice_all _ _ (by rw [ev_len hXo, ev_len ev0_ok])] at M42
      refine WL.nil ?_
      refine WX.next (?_)
      refine WC.seq ?_
      refine WC.seq ?_
      refine WC.region ?_
      refine WL.ex rfl rfl rfl (Ex.mv rfl) ?_
      refine WL.ac rfl rfl rfl (Ac.call rfl Try.func39 nm39 rfl (rErr_ok w42 _ _ _ _ (M42.get (i := 1) rfl))) ?_; rintro v44 w44 ⟨rfl, rfl⟩
      refine WL.ex rfl rfl rfl (Ex.eqI rfl rfl) ?_
      refine WL.nil ?_
      refine WX.next (?_)
      
      refine WC.no rfl ?_
      refine WC.skip ?_
      refine WX.next (?_)
      refine WC.seq ?_
      refine WC.seq ?_
      refine WC.region ?_
      refine WL.ex rfl rfl rfl (Ex.mv rfl) ?_
      refine WL.ac rfl rfl rfl (Ac.call rfl Try.func39 nm39 rfl (rErr_ok w44 _ _ _ _ (M42.get (i := 1) rfl))) ?_; rintro v47 w47 ⟨rfl, rfl⟩
      refine WL.ex rfl rfl rfl (Ex.asg rfl) ?_
      refine WL.nil ?_
      refine WX.next (?_)
      refine WC.seq ?_
      refine WC.region ?_
      refine WL.ex rfl rfl rfl (Ex.mv rfl) ?_
      refine WL.ex rfl rfl rfl (Ex.neI rfl rfl) ?_
      refine WL.nil ?_
      refine WX.next (?_)
      
      refine WC.yes rfl ?_
      refine WC.seq ?_
      refine WC.region ?_
      refine WL.ex rfl rfl rfl (Ex.mv rfl) ?_
      refine WL.ex rfl rfl rfl (Ex.asg rfl) ?_
      refine WL.ex rfl rfl rfl (Ex.asg rfl) ?_
      refine WL.nil ?_
      refine WX.next (?_)
      refine WC.ret ?_
      refine WX.ret_then (WX.ret_block (WX.ret_then (WX.ret_block (WX.ret_then (?_)))))
      refine WX.ret2 rfl rfl rfl ?_
      rw [hE]
      exact ⟨_, rfl, ((Mem.sub M42 (List.nil_sublist _)).free (r := row (.slice none 0 0) 92 47 0 ([])) (row_nil _ _ _) rfl).toNew⟩
  · obtain rfl : L = [] := List.eq_nil_of_length_eq_zero (by omega)
    obtain ⟨f, rfl⟩ : ∃ f1, f = f1 + 1 := ⟨f - 1, by simp at hf; omega⟩
    rw [eRead, if_pos rfl] at hE
    refine WC.exit ?_
    refine WX.exit_then (WX.exit_then (WX.exit_block (WX.next (?_))))
    refine WC.seq ?_
    refine WC.region ?_
    refine WL.ex rfl rfl rfl (Ex.mv rfl) ?_
    refine WL.ex rfl rfl rfl (Ex.asg rfl) ?_
    refine WL.ex rfl rfl rfl (Ex.asg rfl) ?_
    refine WL.nil ?_
    refine WX.next (?_)
    refine WC.ret ?_
    refine WX.ret2 rfl rfl rfl ?_
    rw [hE]
    exact ⟨_, rfl, (Mem.sub M7 (.cons _ (.refl _))).toNew⟩

end Go.Proofs.Ytpngjgcbdaogmaa
