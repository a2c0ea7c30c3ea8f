/- Walks, written by gen.py off the translation's own print: each says what the Go function comes to. -/
import Derived.Test.YtfgikoilgmddhaaDoorCa
set_option linter.unusedVariables false
set_option linter.unusedSimpArgs false
namespace Go.Proofs.YtfgikoilgmddhaaDoor
open Go.Sx Go.RowKit
attribute [local irreducible] Ac Ex WL WC WX WP Gives

/- sponsion/digest.words -/
theorem words_ok (w : World) (A : Option Addr) (c : Nat) (p : List UInt8) (hp : p.length = 64) (hc : 64 ≤ c) (hr : Rd w A (bytesV p)) :
    Gives Tryd.prog 60 #[.slice A 64 c] w fun u w1 => u = .agg (u32V (wAt p 64)).toArray ∧ Keep nof w w1 := by
  obtain ⟨b0, o0, rfl, _⟩ := hr.plain (by simp [hp])
  have M0 := Mem.start w nof
  refine Gives.enter (n := 83) Tryd.func60 rfl Tryd.ntmps60 rfl (env := [(0, .slice (some ⟨b0, o0, none⟩) 64 c)]) rfl ?_
  refine WC.seq ?_
  refine WC.region ?_
  refine WL.ac rfl rfl rfl (Ac.alloc M0 (l := u32V (List.replicate 64 0)) (by kernel_rfl)) ?_; rintro v1 w1 ⟨g1, rfl, hg1, K1, M1⟩
  refine WL.nil ?_
  refine WX.next (?_)
  refine WC.jump (σ := Nat × Nat) 0 (fun s => [(0, .slice (some ⟨b0, o0, none⟩) 64 c), (2, .pointer (some ⟨g1, 0, none⟩)), (3, .pointer (some ⟨s.2, 0, none⟩)), (4, .int .i64 (s.1 : Int))]) (fun s wr => s.1 < 64 ∧ Mem w wr nof [blk s.2 (u32V (wAt p s.1)) 101, blk g1 (u32V (List.replicate 64 0)) 101]) (fun s => 64 - s.1) rfl ?_ ?_
  · skip
    rintro ⟨i, gw⟩ w2 ⟨hi, M2⟩
    dsimp only at hi M2
    refine WC.sub (env' := [(0, .slice (some ⟨b0, o0, none⟩) 64 c), (2, .pointer (some ⟨g1, 0, none⟩)), (3, .pointer (some ⟨gw, 0, none⟩)), (4, .int .i64 (i : Int))]) (.cons rfl (.cons rfl (.cons rfl (.cons rfl (.nil))))) ?_
    refine WC.cut (σ := Unit) (fun _ => [(0, .slice (some ⟨b0, o0, none⟩) 64 c), (2, .pointer (some ⟨g1, 0, none⟩)), (3, .pointer (some ⟨gw, 0, none⟩)), (4, .int .i64 (i : Int))]) (fun _ wr => Mem w wr nof [blk gw (u32V (wAt p (i + 1))) 101, blk g1 (u32V (List.replicate 64 0)) 101]) ?_ ?_
    ·
      refine WC.seq ?_
      refine WC.region ?_
      refine WL.ex rfl rfl rfl (Ex.mv rfl) ?_
      refine WL.ex rfl rfl rfl (Ex.lss rfl rfl) ?_
      refine WL.nil ?_
      refine WX.next (?_)
      refine WC.cond_dec rfl (fun hlo => ?_) (fun hlo => ?_)
      · have hlo2 : i < 16 := by omega
        refine WC.seq ?_
        refine WC.region ?_
        refine WL.ex rfl rfl rfl (Ex.mv rfl) ?_
        refine WL.ex rfl rfl rfl (Ex.mv rfl) ?_
        refine WL.ex rfl rfl rfl (Ex.mul rfl rfl (c := ((4 * i : Nat) : Int)) (by rw [i64w _ (by omega) (by omega)]; omega)) ?_
        refine WL.ex rfl rfl rfl (Ex.mv rfl) ?_
        refine WL.ex rfl rfl rfl (Ex.mul rfl rfl (c := ((4 * i : Nat) : Int)) (by rw [i64w _ (by omega) (by omega)]; omega)) ?_
        refine WL.ex rfl rfl rfl (Ex.add rfl rfl (c := ((4 * i + 4 : Nat) : Int)) (by rw [i64w _ (by omega) (by omega)]; omega)) ?_
        refine WL.ex rfl rfl rfl (Ex.sllhN Tryd.underlying79 sz5 rfl rfl rfl (by omega) (by omega) (by omega)) ?_
        rw [show 4 * i + 4 - 4 * i = 4 by omega]
        obtain ⟨q, hq⟩ : ∃ q, q = (p.drop (4 * i)).take 4 := ⟨_, rfl⟩
        have hql : q.length = 4 := by rw [hq]; simp; omega
        have hqr : Rd w (some ⟨b0, o0 + 4 * i * 1, none⟩) (bytesV q) := by
          have h1 := (hr.drop (4 * i)).take 4
          simp only [Option.map_some, add0] at h1
          rw [hq, Nat.mul_one]
          simpa [bytesV] using h1
        refine WL.ex rfl rfl rfl (Ex.len Tryd.underlying79 rfl) ?_
        refine WL.ex rfl rfl rfl (Ex.mv rfl) ?_
        refine WL.nil ?_
        refine WX.next (?_)
        refine WC.block ?_
        refine WC.loop (σ := Nat) (fun j => [(0, .slice (some ⟨b0, o0, none⟩) 64 c), (2, .pointer (some ⟨g1, 0, none⟩)), (3, .pointer (some ⟨gw, 0, none⟩)), (4, .int .i64 (i : Int)), (17, .slice (some ⟨b0, o0 + 4 * i * 1, none⟩) 4 (c - 4 * i)), (18, .int .i64 4), (19, .int .i64 (j : Int))]) (fun j wr => j ≤ 4 ∧ Mem w wr nof [blk gw (u32V ((wAt p i).set i (beVal (q.take j)))) 101, blk g1 (u32V (List.replicate 64 0)) 101]) (fun j => 4 - j) (0) ?_ (.cons rfl (.cons rfl (.cons rfl (.cons rfl (.cons rfl (.cons rfl (.cons rfl (.nil)))))))) ?_
        · refine ⟨by decide, ?_⟩
          have hz : (wAt p i).set i (beVal (q.take 0)) = wAt p i := wAt_self p hi
          rw [hz]
          exact M2
        rintro j w14 ⟨hj, M14⟩
        refine WC.seq ?_
        refine WC.region ?_
        refine WL.ex rfl rfl rfl (Ex.lss rfl rfl) ?_
        refine WL.nil ?_
        refine WX.next (?_)
        refine WC.seq ?_
        refine WC.cond_dec rfl (fun hj4 => ?_) (fun hj4 => ?_)
        · obtain ⟨b, hb⟩ : ∃ b, q[j]? = some b := ⟨_, List.getElem?_eq_getElem (by omega)⟩
          have hb8 := b.toNat_lt
          have hv : beVal (q.take j) < 256 ^ 3 := beVal_lt_of (by simp; omega)
          refine WC.skip ?_
          refine WX.next (?_)
          refine WC.seq ?_
          refine WC.block ?_
          refine WC.seq ?_
          refine WC.region ?_
          refine WL.ex rfl rfl rfl (Ex.ia Tryd.underlying79 sz5 rfl rfl ⟨by omega, by omega⟩) ?_
          refine WL.ex rfl rfl rfl (Ex.load ty5 rfl (Rd.at1 (u := byteV b) (M14.rd hqr) (j := (j : Int).toNat * 1) (by simp [bytesV_get hb]))) ?_
          refine WL.ex rfl rfl rfl (Ex.asg rfl) ?_
          refine WL.nil ?_
          refine WX.next (?_)
          refine WC.region ?_
          refine WL.ex rfl rfl rfl (Ex.mv rfl) ?_
          refine WL.ex rfl rfl rfl (Ex.mv rfl) ?_
          refine WL.ex rfl rfl rfl (Ex.iaA Tryd.underlying101 sz96 rfl rfl ⟨by omega, by omega⟩) ?_
          refine WL.ex rfl rfl rfl (Ex.load ty96 rfl (M14.cell (i := 0) (v := .int .u32 ((beVal (q.take j) : Nat) : Int)) rfl (u32V_self (by rw [(wAt_ok p i).1]; exact hi) (by simp)))) ?_
          refine WL.ex rfl rfl rfl (Ex.shl rfl rfl (m := 8) rfl (c := ((beVal (q.take j) * 2 ^ 8 : Nat) : Int)) (by rw [shl32 (by decide) (by omega), Nat.mod_eq_of_lt (show beVal (q.take j) < 16777216 by omega)])) ?_
          refine WL.ex rfl rfl rfl (Ex.mv rfl) ?_
          refine WL.ex rfl rfl rfl (Ex.cvI Tryd.underlying5 Tryd.underlying96 rfl (u32w_lt _ (by omega))) ?_
          refine WL.ex rfl rfl rfl (Ex.bor rfl rfl (c := ((beVal (q.take (j + 1)) : Nat) : Int)) (bor32 (by omega) (by omega) (by rw [or_add hb8, take_snoc hb, beVal_snoc]))) ?_
          refine WL.ex rfl rfl rfl (Ex.iaA Tryd.underlying101 sz96 rfl rfl ⟨by omega, by omega⟩) ?_
          refine WL.ac0 rfl rfl (Ac.st M14 ty96 rfl rfl rfl (i := 0) rfl (by simp [(wAt_ok p i).1]; omega)) ?_; rintro v28 w28 ⟨K28, M28⟩
          try dsimp only [List.set] at M28
          simp only [Int.toNat_natCast, Nat.mul_one, Nat.zero_add] at M28
          rw [u32V_set, List.set_set] at M28
          refine WL.nil ?_
          refine WX.normal_block (WX.next (?_))
          refine WC.region ?_
          refine WL.ex rfl rfl rfl (Ex.add rfl rfl (i64w _ (by omega) (by omega))) ?_
          refine WL.ex rfl rfl rfl (Ex.mv rfl) ?_
          refine WL.nil ?_
          refine WX.again (j + 1) ?_ ?_ (.cons rfl (.cons rfl (.cons rfl (.cons rfl (.cons rfl (.cons rfl (.cons rfl (.nil))))))))
          · (try dsimp only); omega
          · exact ⟨by omega, M28⟩
        · obtain rfl : j = 4 := by omega
          rw [List.take_of_length_le (by omega), hq, ← wAt_lo p hlo2] at M14
          refine WC.exit ?_
          refine WX.exit_then (WX.exit_then (WX.exit_block (?_)))
          refine WX.join (()) ?_ (.cons rfl (.cons rfl (.cons rfl (.cons rfl (.nil)))))
          exact M14
      · have hlo2 : ¬ i < 16 := by omega
        refine WC.seq ?_
        refine WC.draw (Keep nof w2.drew) [] (.one 0 0 (.one 1 0 (.one 2 0 (.one 4 0 (.one 5 0 (.one 6 0 (.one 3 1 (.one 8 0 (.one 7 1 (.one 9 0 .nil)))))))))) mixed (by kernel_rfl) (by kernel_rfl) (by kernel_rfl) (HQ.then_ (HQ.then_ (HQ.jump HQ.body))) ?_
        obtain ⟨w31, hw31⟩ : ∃ v, v = w2.drew := ⟨_, rfl⟩
        have D31 : Keep nof w2 w31 := by rw [hw31]; exact Keep.drew _ _
        have M31 := M2.step D31
        rw [← hw31]; clear hw31
        refine WP.p rfl rfl rfl rfl (fun _ => Ex.mv rfl) ?_
        refine WP.p rfl rfl rfl rfl (fun _ => Ex.sub rfl rfl (c := ((i - 15 : Nat) : Int)) (by rw [i64w _ (by omega) (by omega)]; omega)) ?_
        refine WP.p rfl rfl rfl rfl (fun _ => Ex.iaA Tryd.underlying101 sz96 rfl rfl ⟨by omega, by omega⟩) ?_
        refine WP.p rfl rfl rfl rfl (fun _ => Ex.mv rfl) ?_
        refine WP.p rfl rfl rfl rfl (fun _ => Ex.sub rfl rfl (c := ((i - 2 : Nat) : Int)) (by rw [i64w _ (by omega) (by omega)]; omega)) ?_
        refine WP.p rfl rfl rfl rfl (fun _ => Ex.iaA Tryd.underlying101 sz96 rfl rfl ⟨by omega, by omega⟩) ?_
        refine WP.q (Keep.refl _ _) rfl rfl rfl rfl (fun w' hS => Ex.load ty96 rfl (hS.cell (M31.cell (i := 0) rfl (u32V_at (i := i - 15) (by rw [(wAt_ok p i).1]; omega) (by simp))) (fun f => f))) ?_
        refine WP.p rfl rfl rfl rfl (fun _ => Ex.asg rfl) ?_
        refine WP.q (Keep.refl _ _) rfl rfl rfl rfl (fun w' hS => Ex.load ty96 rfl (hS.cell (M31.cell (i := 0) rfl (u32V_at (i := i - 2) (by rw [(wAt_ok p i).1]; omega) (by simp))) (fun f => f))) ?_
        refine WP.p rfl rfl rfl rfl (fun _ => Ex.asg rfl) ?_
        refine WP.nil ?_
        refine WX.next (?_)
        refine WC.seq ?_
        refine WC.draw (Keep nof w31.drew) [11] (.one 0 0 (.one 1 0 (.one 2 0 (.one 3 0 (.one 5 0 (.one 6 0 (.one 7 0 (.one 4 1 (.one 8 1 (.one 9 0 (.one 10 0 (.one 11 2 .nil)))))))))))) mixed (by kernel_rfl) (by kernel_rfl) (by kernel_rfl) (HQ.then_ (HQ.then_ (HQ.jump HQ.body))) ?_
        obtain ⟨w42, hw42⟩ : ∃ v, v = w31.drew := ⟨_, rfl⟩
        have D42 : Keep nof w31 w42 := by rw [hw42]; exact Keep.drew _ _
        have M42 := M31.step D42
        rw [← hw42]; clear hw42
        refine WP.p rfl rfl rfl rfl (fun _ => Ex.mv rfl) ?_
        refine WP.p rfl rfl rfl rfl (fun _ => Ex.mv rfl) ?_
        refine WP.p rfl rfl rfl rfl (fun _ => Ex.sub rfl rfl (c := ((i - 16 : Nat) : Int)) (by rw [i64w _ (by omega) (by omega)]; omega)) ?_
        refine WP.p rfl rfl rfl rfl (fun _ => Ex.iaA Tryd.underlying101 sz96 rfl rfl ⟨by omega, by omega⟩) ?_
        refine WP.p rfl rfl rfl rfl (fun _ => Ex.mv rfl) ?_
        refine WP.p rfl rfl rfl rfl (fun _ => Ex.sub rfl rfl (c := ((i - 7 : Nat) : Int)) (by rw [i64w _ (by omega) (by omega)]; omega)) ?_
        refine WP.p rfl rfl rfl rfl (fun _ => Ex.iaA Tryd.underlying101 sz96 rfl rfl ⟨by omega, by omega⟩) ?_
        refine WP.q (Keep.refl _ _) rfl rfl rfl rfl (fun w' hS => Ex.load ty96 rfl (hS.cell (M42.cell (i := 0) rfl (u32V_at (i := i - 16) (by rw [(wAt_ok p i).1]; omega) (by simp))) (fun f => f))) ?_
        refine WP.q (Keep.refl _ _) rfl rfl rfl rfl (fun w' hS => Ex.load ty96 rfl (hS.cell (M42.cell (i := 0) rfl (u32V_at (i := i - 7) (by rw [(wAt_ok p i).1]; omega) (by simp))) (fun f => f))) ?_
        refine WP.p rfl rfl rfl rfl (fun _ => Ex.add rfl rfl (add32N _ _)) ?_
        refine WP.p rfl rfl rfl rfl (fun _ => Ex.iaA Tryd.underlying101 sz96 rfl rfl ⟨by omega, by omega⟩) ?_
        refine WP.a0 rfl rfl rfl (Ac.st M42 ty96 rfl rfl rfl (i := 0) rfl (by simp [(wAt_ok p i).1]; omega)) ?_; rintro v54 w54 ⟨K54, M54⟩; refine .inl ⟨rfl, Keep nof w54, ?_⟩
        try dsimp only [List.set] at M54
        simp only [Int.toNat_natCast, Nat.mul_one, Nat.zero_add] at M54
        rw [u32V_set] at M54
        refine WP.nil ?_
        refine WX.next (?_)
        refine WC.seq ?_
        refine WC.draw (Keep nof w54.drew) [13] (.one 0 0 (.one 1 0 (.one 3 0 (.one 5 0 (.one 8 0 (.one 9 0 (.one 2 1 (.one 4 2 (.one 6 2 (.one 7 0 (.one 10 0 (.one 11 0 (.one 12 0 (.one 13 2 .nil)))))))))))))) mixed (by kernel_rfl) (by kernel_rfl) (by kernel_rfl) (HQ.then_ (HQ.then_ (HQ.jump HQ.body))) ?_
        obtain ⟨w55, hw55⟩ : ∃ v, v = w54.drew := ⟨_, rfl⟩
        have D55 : Keep nof w54 w55 := by rw [hw55]; exact Keep.drew _ _
        have M55 := M54.step D55
        rw [← hw55]; clear hw55
        refine WP.p rfl rfl rfl rfl (fun _ => Ex.mv rfl) ?_
        refine WP.p rfl rfl rfl rfl (fun _ => Ex.iaA Tryd.underlying101 sz96 rfl rfl ⟨by omega, by omega⟩) ?_
        refine WP.p rfl rfl rfl rfl (fun _ => Ex.mv rfl) ?_
        refine WP.p rfl rfl rfl rfl (fun _ => Ex.mv rfl) ?_
        refine WP.p rfl rfl rfl rfl (fun _ => Ex.mv rfl) ?_
        refine WP.p rfl rfl rfl rfl (fun _ => Ex.shr rfl rfl (m := 3) rfl (shr32 _ _ (by decide))) ?_
        refine WP.q (Keep.refl _ _) rfl rfl rfl rfl (fun w' hS => Ex.load ty96 rfl (hS.cell (M55.cell (i := 0) rfl (u32V_self (by rw [(wAt_ok p i).1]; exact hi) (by simp))) (fun f => f))) ?_
        refine WP.as rfl rfl rfl rfl (Ac.call rfl Tryd.func62 nm62 rfl (rotl_ok w55 _ 7 _ (u32s_get (wAt_ok p i)) (by decide) (by decide) (by decide))) ?_; rintro v63 w63 ⟨rfl, K63⟩
        refine ⟨Keep nof w63, fun u h => K63.trans h, Keep.refl _ _, ?_⟩
        have M63 := M55.step K63
        refine WP.as rfl rfl rfl rfl (Ac.call rfl Tryd.func62 nm62 rfl (rotl_ok w63 _ 18 _ (u32s_get (wAt_ok p i)) (by decide) (by decide) (by decide))) ?_; rintro v64 w64 ⟨rfl, K64⟩
        refine ⟨Keep nof w64, fun u h => K64.trans h, Keep.refl _ _, ?_⟩
        have M64 := M63.step K64
        refine WP.p rfl rfl rfl rfl (fun _ => Ex.bxor rfl rfl (bxor32 (rotr_lt (n := 7) (by decide) (u32s_get (wAt_ok p i))) (rotr_lt (n := 18) (by decide) (u32s_get (wAt_ok p i))) rfl)) ?_
        refine WP.p rfl rfl rfl rfl (fun _ => Ex.bxor rfl rfl (bxor32 (xor32 (rotr_lt (n := 7) (by decide) (u32s_get (wAt_ok p i))) (rotr_lt (n := 18) (by decide) (u32s_get (wAt_ok p i)))) (Nat.lt_of_le_of_lt (Nat.div_le_self _ _) (u32s_get (wAt_ok p i))) rfl)) ?_
        refine WP.p rfl rfl rfl rfl (fun _ => Ex.add rfl rfl (add32N _ _)) ?_
        refine WP.p rfl rfl rfl rfl (fun _ => Ex.iaA Tryd.underlying101 sz96 rfl rfl ⟨by omega, by omega⟩) ?_
        refine WP.a0 rfl rfl rfl (Ac.st M64 ty96 rfl rfl rfl (i := 0) rfl (by simp [(wAt_ok p i).1]; omega)) ?_; rintro v69 w69 ⟨K69, M69⟩; refine .inl ⟨rfl, Keep nof w69, ?_⟩
        try dsimp only [List.set] at M69
        simp only [Int.toNat_natCast, Nat.mul_one, Nat.zero_add] at M69
        rw [u32V_set, List.set_set] at M69
        refine WP.nil ?_
        refine WX.next (?_)
        refine WC.draw (Keep nof w69.drew) [13] (.one 0 0 (.one 1 0 (.one 3 0 (.one 5 0 (.one 8 0 (.one 9 0 (.one 2 1 (.one 4 2 (.one 6 2 (.one 7 0 (.one 10 0 (.one 11 0 (.one 12 0 (.one 13 2 .nil)))))))))))))) mixed (by kernel_rfl) (by kernel_rfl) (by kernel_rfl) (HQ.then_ (HQ.jump HQ.body)) ?_
        obtain ⟨w70, hw70⟩ : ∃ v, v = w69.drew := ⟨_, rfl⟩
        have D70 : Keep nof w69 w70 := by rw [hw70]; exact Keep.drew _ _
        have M70 := M69.step D70
        rw [← hw70]; clear hw70
        refine WP.p rfl rfl rfl rfl (fun _ => Ex.mv rfl) ?_
        refine WP.p rfl rfl rfl rfl (fun _ => Ex.iaA Tryd.underlying101 sz96 rfl rfl ⟨by omega, by omega⟩) ?_
        refine WP.p rfl rfl rfl rfl (fun _ => Ex.mv rfl) ?_
        refine WP.p rfl rfl rfl rfl (fun _ => Ex.mv rfl) ?_
        refine WP.p rfl rfl rfl rfl (fun _ => Ex.mv rfl) ?_
        refine WP.p rfl rfl rfl rfl (fun _ => Ex.shr rfl rfl (m := 10) rfl (shr32 _ _ (by decide))) ?_
        refine WP.q (Keep.refl _ _) rfl rfl rfl rfl (fun w' hS => Ex.load ty96 rfl (hS.cell (M70.cell (i := 0) rfl (u32V_self (by rw [(wAt_ok p i).1]; exact hi) (by simp))) (fun f => f))) ?_
        refine WP.as rfl rfl rfl rfl (Ac.call rfl Tryd.func62 nm62 rfl (rotl_ok w70 _ 17 _ (u32s_get (wAt_ok p i)) (by decide) (by decide) (by decide))) ?_; rintro v78 w78 ⟨rfl, K78⟩
        refine ⟨Keep nof w78, fun u h => K78.trans h, Keep.refl _ _, ?_⟩
        have M78 := M70.step K78
        refine WP.as rfl rfl rfl rfl (Ac.call rfl Tryd.func62 nm62 rfl (rotl_ok w78 _ 19 _ (u32s_get (wAt_ok p i)) (by decide) (by decide) (by decide))) ?_; rintro v79 w79 ⟨rfl, K79⟩
        refine ⟨Keep nof w79, fun u h => K79.trans h, Keep.refl _ _, ?_⟩
        have M79 := M78.step K79
        refine WP.p rfl rfl rfl rfl (fun _ => Ex.bxor rfl rfl (bxor32 (rotr_lt (n := 17) (by decide) (u32s_get (wAt_ok p i))) (rotr_lt (n := 19) (by decide) (u32s_get (wAt_ok p i))) rfl)) ?_
        refine WP.p rfl rfl rfl rfl (fun _ => Ex.bxor rfl rfl (bxor32 (xor32 (rotr_lt (n := 17) (by decide) (u32s_get (wAt_ok p i))) (rotr_lt (n := 19) (by decide) (u32s_get (wAt_ok p i)))) (Nat.lt_of_le_of_lt (Nat.div_le_self _ _) (u32s_get (wAt_ok p i))) rfl)) ?_
        refine WP.p rfl rfl rfl rfl (fun _ => Ex.add rfl rfl (add32N _ _)) ?_
        refine WP.p rfl rfl rfl rfl (fun _ => Ex.iaA Tryd.underlying101 sz96 rfl rfl ⟨by omega, by omega⟩) ?_
        refine WP.a0 rfl rfl rfl (Ac.st M79 ty96 rfl rfl rfl (i := 0) rfl (by simp [(wAt_ok p i).1]; omega)) ?_; rintro v84 w84 ⟨K84, M84⟩; refine .inl ⟨rfl, Keep nof w84, ?_⟩
        try dsimp only [List.set] at M84
        simp only [Int.toNat_natCast, Nat.mul_one, Nat.zero_add] at M84
        rw [u32V_set, List.set_set] at M84
        rw [wAt_hi p hlo2 (by simp only [sg0, sg1]; omega)] at M84
        refine WP.nil ?_
        refine WX.join (()) ?_ (.cons rfl (.cons rfl (.cons rfl (.cons rfl (.nil)))))
        exact M84
    · rintro _ w85 M85
      refine WC.seq ?_
      refine WC.region ?_
      refine WL.ex rfl rfl rfl (Ex.mv rfl) ?_
      refine WL.ex rfl rfl rfl (Ex.add rfl rfl (i64w _ (by omega) (by omega))) ?_
      refine WL.ex rfl rfl rfl (Ex.asg rfl) ?_
      refine WL.nil ?_
      refine WX.next (?_)
      refine WC.seq ?_
      refine WC.seq ?_
      refine WC.region ?_
      refine WL.ex rfl rfl rfl (Ex.mv rfl) ?_
      refine WL.ex rfl rfl rfl (Ex.lss rfl rfl) ?_
      refine WL.nil ?_
      refine WX.next (?_)
      refine WC.cond_dec rfl (fun h81 => ?_) (fun h81 => ?_)
      · skip
        refine WC.goto ?_
        refine WX.goto_then (?_)
        refine WX.goto_again (((i + 1, gw) : Nat × Nat)) ?_ ?_ (.cons rfl (.cons rfl (.cons rfl (.cons rfl (.nil)))))
        · (try dsimp only); omega
        · exact ⟨by omega, M85⟩
      · obtain rfl : i = 63 := by omega
        refine WC.skip ?_
        refine WX.next (?_)
        refine WC.seq ?_
        refine WC.region ?_
        refine WL.ex rfl rfl rfl (Ex.loadA ty101 rfl (u32s_len (wAt_ok p 64)) (M85.rdw (i := 0) rfl)) ?_
        refine WL.ac0 rfl rfl (Ac.stA M85 ty101 rfl rfl rfl (u32s_len (wAt_ok p 64)) (u32V_one _) (i := 1) rfl (by rw [u32s_len (wAt_ok p 64), u32s_len (u32s_0 64)]; decide)) ?_; rintro v92 w92 ⟨K92, M92⟩
        try dsimp only [List.set] at M92
        rw [splice_all _ _ (by rw [u32s_len (wAt_ok p 64), u32s_len (u32s_0 64)])] at M92
        refine WL.nil ?_
        refine WX.next (?_)
        refine WC.ret ?_
        refine WX.ret_jump (?_)
        refine WX.retc rfl rfl (run_loadVarA ty101 (by exact u32s_len (wAt_ok p 64)) (M92.rdw (i := 1) rfl)) ?_
        exact ⟨rfl, M92.keep⟩
  · intro hbody
    refine WC.seq ?_
    refine WC.region ?_
    refine WL.ac rfl rfl rfl (Ac.alloc M1 (l := u32V (List.replicate 64 0)) (by kernel_rfl)) ?_; rintro v93 w93 ⟨g2, rfl, hg93, K93, M93⟩
    refine WL.nil ?_
    refine WX.next (?_)
    refine WC.seq ?_
    refine WC.region ?_
    refine WL.ex rfl rfl rfl (Ex.asg rfl) ?_
    refine WL.nil ?_
    refine WX.next (?_)
    refine WC.at_label (WC.sub (.cons rfl (.cons rfl (.cons rfl (.cons rfl (.nil))))) (hbody (((0, g2) : Nat × Nat)) _ ?_))
    exact ⟨by dsimp only; omega, M93⟩

end Go.Proofs.YtfgikoilgmddhaaDoor
