/- Walks, written by gen.py off the translation's own print: each says what the Go function comes to. -/
import Derived.Test.YtpngjgcbdaogmaaWb
set_option linter.unusedVariables false
set_option linter.unusedSimpArgs false
namespace Go.Proofs.Ytpngjgcbdaogmaa
open Go.Sx Go.RowKit
attribute [local irreducible] Ac Ex WL WC WX WP Gives

/- sponsion/sponsionlaw04.lives -/
theorem lives04_ok (w : World) :
    Gives Try.prog 16 #[] w fun u w1 => u = .bool true ∧ Keep nof w w1 := by
  have M0 := (Mem.start w nof).free (r := row (.slice none 0 0) 5 1 ([] : List UInt8).length (bytesV [])) (row_nil _ _ _) rfl
  refine Gives.enter (n := 14) Try.func16 rfl Try.ntmps16 rfl (env := []) rfl ?_
  refine WC.seq ?_
  refine WC.region ?_
  refine WL.ex rfl rfl rfl (Ex.asg rfl) ?_
  refine WL.nil ?_
  refine WX.next (?_)
  refine WC.seq ?_
  refine WC.region ?_
  refine WL.ex rfl rfl rfl (Ex.bld bd32 (parts := []) rfl rfl rfl rfl) ?_
  refine WL.ac rfl rfl rfl (Ac.box M0 rfl rfl) ?_; rintro v3 w3 ⟨g, rfl, hg3, K3, M3⟩
  have M3 := M3.close1 (fun v => [v])
  refine WL.ex rfl rfl rfl (Ex.asg rfl) ?_
  refine WL.nil ?_
  refine WX.next (?_)
  refine WC.seq ?_
  refine WC.region ?_
  refine WL.ex rfl rfl rfl (Ex.mv rfl) ?_
  refine WL.ac rfl rfl rfl (Ac.call rfl Try.func20 nm20 rfl (wU32_ok w3 _ _ _ _ (M3.get (i := 0) rfl) (by first | omega | decide) (by first | (simp; done) | (simp; omega) | omega))) ?_; rintro v6 w6 ⟨rfl, v6, T6⟩
  have M6 := M3.turned (i := 0) rfl T6
  try dsimp only [List.set] at M6
  refine WL.ex rfl rfl rfl (Ex.mv rfl) ?_
  refine WL.ex rfl rfl rfl (Ex.eqP Try.underlying30 (by kernel_rfl) rfl rfl rfl) ?_
  rw [beq_self_eq_true]
  refine WL.ex rfl rfl rfl (Ex.mv rfl) ?_
  refine WL.yes rfl rfl rfl rfl ?_
  refine WL.ex rfl rfl rfl (Ex.mv rfl) ?_
  refine WL.yes rfl rfl rfl rfl ?_
  refine WL.ac rfl rfl rfl (Ac.call rfl Try.func26 nm26 rfl (wBytes_ok w6 _ _ _ (M6.get (i := 0) rfl) (by first | (simp; done) | (simp; omega) | omega))) ?_; rintro v11 w11 N11
  have M11 := M6.new N11
  obtain ⟨A11, c11, rfl⟩ := own_slice (M11.get (i := 0) rfl)
  refine WL.yes rfl rfl rfl rfl ?_
  refine WL.ex rfl rfl rfl (Ex.cvBS Try.underlying25 Try.underlying5 Try.underlying9 rfl (M11.rdr (i := 0) rfl)) ?_
  refine WL.yes rfl rfl rfl rfl ?_
  refine WL.ex rfl rfl rfl (Ex.eqS rfl rfl) ?_
  refine WL.ex rfl rfl rfl (Ex.pickT rfl rfl) ?_
  refine WL.ex rfl rfl rfl (Ex.asg rfl) ?_
  refine WL.nil ?_
  refine WX.next (?_)
  refine WC.ret ?_
  refine WX.ret1 rfl rfl ?_
  exact ⟨congrArg Value.bool (decide_eq_true (show [] ++ be 4 258 = [0, 0, 1, 2] by decide)), M11.keep⟩

/- sponsion/sponsionref04.Num -/
theorem num4_ok (w : World) (x size : Nat) (hx : x < 18446744073709551616) (hs : size ≤ 1000) :
    Gives Try.prog 19 #[.int .u64 (x : Int), .int .i64 (size : Int)] w fun u w1 => u = str (be size x) ∧ Keep nof w w1 := by
  have M0 := Mem.start w nof
  refine Gives.enter (n := 20) Try.func19 rfl Try.ntmps19 rfl (env := [(0, .int .u64 (x : Int)), (1, .int .i64 (size : Int))]) rfl ?_
  refine WC.seq ?_
  refine WC.region ?_
  refine WL.ex rfl rfl rfl (Ex.asg rfl) ?_
  refine WL.nil ?_
  refine WX.next (?_)
  refine WC.seq ?_
  refine WC.region ?_
  refine WL.ex rfl rfl rfl (Ex.asg rfl) ?_
  refine WL.nil ?_
  refine WX.next (?_)
  refine WC.seq ?_
  refine WC.seq ?_
  refine WC.region ?_
  refine WL.ex rfl rfl rfl (Ex.mv rfl) ?_
  refine WL.ex rfl rfl rfl (Ex.mv rfl) ?_
  refine WL.nil ?_
  refine WX.next (?_)
  refine WC.block ?_
  refine WC.loop (σ := Nat) (fun i => [(0, .int .u64 ((x / 256 ^ i : Nat) : Int)), (5, str (be i x)), (6, .int .i64 (size : Int)), (7, .int .i64 (i : Int))]) (fun i wr => i ≤ size ∧ Mem w wr nof []) (fun i => size - i) (0) ?_ (.cons (congrArg some (congrArg (Value.int .u64) (by simp))) (.cons rfl (.cons rfl (.cons rfl .nil)))) ?_
  · exact ⟨by omega, M0⟩
  rintro i w5 ⟨hi, M5⟩
  refine WC.seq ?_
  refine WC.region ?_
  refine WL.ex rfl rfl rfl (Ex.lss rfl rfl) ?_
  refine WL.nil ?_
  refine WX.next (?_)
  refine WC.seq ?_
  refine WC.cond_dec rfl (fun hc8 => ?_) (fun hc8 => ?_)
  · skip
    refine WC.skip ?_
    refine WX.next (?_)
    refine WC.seq ?_
    refine WC.block ?_
    refine WC.seq ?_
    refine WC.region ?_
    refine WL.ex rfl rfl rfl (Ex.mv rfl) ?_
    refine WL.ex rfl rfl rfl (Ex.rem rfl rfl (by decide) (c := ((x / 256 ^ i % 256 : Nat) : Int)) (remN _ 256)) ?_
    refine WL.ex rfl rfl rfl (Ex.cvI Try.underlying33 Try.underlying5 rfl (c := ((UInt8.ofNat (x / 2 ^ (8 * i))).toNat : Int)) (by rw [u8b, ofNat_mod, Nat.pow_mul])) ?_
    refine WL.ac rfl rfl rfl (Ac.bs M5 (parts := [(0, .tmp 11)]) rfl rfl (LitS.one el25 rfl)) ?_; rintro v10 w10 ⟨g10, rfl, hg10, K10, M10⟩
    refine WL.ex rfl rfl rfl (Ex.cvBS Try.underlying25 Try.underlying5 Try.underlying9 rfl (l := [UInt8.ofNat (x / 2 ^ (8 * i))]) (M10.rdw (i := 0) rfl)) ?_
    refine WL.ex rfl rfl rfl (Ex.mv rfl) ?_
    refine WL.ex rfl rfl rfl (Ex.addS rfl rfl (by simp; omega)) ?_
    refine WL.ex rfl rfl rfl (Ex.asg rfl) ?_
    refine WL.nil ?_
    refine WX.next (?_)
    refine WC.region ?_
    refine WL.ex rfl rfl rfl (Ex.mv rfl) ?_
    refine WL.ex rfl rfl rfl (Ex.quo rfl rfl (by decide) (c := ((x / 256 ^ (i + 1) : Nat) : Int)) (by rw [Nat.pow_succ, ← Nat.div_div_eq_div_mul]; exact u64quo _ 256 (Nat.lt_of_le_of_lt (Nat.div_le_self _ _) hx))) ?_
    refine WL.ex rfl rfl rfl (Ex.asg rfl) ?_
    refine WL.nil ?_
    refine WX.normal_block (WX.next (?_))
    refine WC.region ?_
    refine WL.ex rfl rfl rfl (Ex.add rfl rfl (i64w _ (by omega) (by omega))) ?_
    refine WL.ex rfl rfl rfl (Ex.mv rfl) ?_
    refine WL.nil ?_
    refine WX.again (i + 1) ?_ ?_ (.cons rfl (.cons rfl (.cons rfl (.cons rfl (.nil)))))
    · (try dsimp only); omega
    · exact ⟨by omega, M10.drop1⟩
  · obtain rfl : i = size := by omega
    refine WC.exit ?_
    refine WX.exit_then (WX.exit_then (WX.exit_block (WX.next (?_))))
    refine WC.seq ?_
    refine WC.region ?_
    refine WL.ex rfl rfl rfl (Ex.mv rfl) ?_
    refine WL.ex rfl rfl rfl (Ex.asg rfl) ?_
    refine WL.nil ?_
    refine WX.next (?_)
    refine WC.ret ?_
    refine WX.ret1 rfl rfl ?_
    exact ⟨rfl, M5.keep⟩

/- sponsion/sponsionref04.Int -/
theorem int4_ok (w : World) (a : List Nat) (ha : Int4 a) :
    Gives Try.prog 23 #[.agg (intV a).toArray] w fun u w1 => u = str (intB a) ∧ Keep nof w w1 := by
  have M0 := Mem.start w nof
  obtain ⟨hl4, hb4⟩ := ha
  refine Gives.enter (n := 18) Try.func23 rfl Try.ntmps23 rfl (env := [(0, .agg (intV a).toArray)]) rfl ?_
  refine WC.seq ?_
  refine WC.region ?_
  refine WL.ac rfl rfl rfl (Ac.box M0 rfl rfl) ?_; rintro v1 w1 ⟨g1, rfl, hg1, K1, M1⟩
  refine WL.ex rfl rfl rfl (Ex.asg rfl) ?_
  refine WL.nil ?_
  refine WX.next (?_)
  refine WC.seq ?_
  refine WC.draw (Keep nof w1.drew) [] (.one 0 0 (.one 3 0 (.one 7 0 (.one 11 0 (.one 1 1 (.one 4 1 (.one 8 1 (.one 12 1 (.one 2 2 (.one 5 2 (.one 6 0 (.one 9 2 (.one 10 0 (.one 13 2 (.one 14 0 (.one 15 0 .nil)))))))))))))))) mixed (by kernel_rfl) (by kernel_rfl) (by kernel_rfl) (HQ.then_ HQ.body) ?_
  obtain ⟨w3, hw3⟩ : ∃ v, v = w1.drew := ⟨_, rfl⟩
  have D3 : Keep nof w1 w3 := by rw [hw3]; exact Keep.drew _ _
  have M3 := M1.step D3
  rw [← hw3]; clear hw3
  refine WP.p rfl rfl rfl rfl (fun _ => Ex.iaA Try.underlying35 sz33 rfl rfl ⟨by omega, by omega⟩) ?_
  refine WP.p rfl rfl rfl rfl (fun _ => Ex.iaA Try.underlying35 sz33 rfl rfl ⟨by omega, by omega⟩) ?_
  refine WP.p rfl rfl rfl rfl (fun _ => Ex.iaA Try.underlying35 sz33 rfl rfl ⟨by omega, by omega⟩) ?_
  refine WP.p rfl rfl rfl rfl (fun _ => Ex.iaA Try.underlying35 sz33 rfl rfl ⟨by omega, by omega⟩) ?_
  refine WP.q (Keep.refl _ _) rfl rfl rfl rfl (fun w' hS => Ex.load ty33 rfl (v := .int .u64 ((a.getD 3 0 : Nat) : Int)) (hS.cell (M3.cell (i := 0) rfl (intV_get (by omega))) (fun f => f))) ?_
  refine WP.q (Keep.refl _ _) rfl rfl rfl rfl (fun w' hS => Ex.load ty33 rfl (v := .int .u64 ((a.getD 2 0 : Nat) : Int)) (hS.cell (M3.cell (i := 0) rfl (intV_get (by omega))) (fun f => f))) ?_
  refine WP.q (Keep.refl _ _) rfl rfl rfl rfl (fun w' hS => Ex.load ty33 rfl (v := .int .u64 ((a.getD 1 0 : Nat) : Int)) (hS.cell (M3.cell (i := 0) rfl (intV_get (by omega))) (fun f => f))) ?_
  refine WP.q (Keep.refl _ _) rfl rfl rfl rfl (fun w' hS => Ex.load ty33 rfl (v := .int .u64 ((a.getD 0 0 : Nat) : Int)) (hS.cell (M3.cell (i := 0) rfl (intV_get (by omega))) (fun f => f))) ?_
  refine WP.as rfl rfl rfl rfl (Ac.call rfl Try.func19 nm19 rfl (num4_ok w3 _ 8 (hb4 3) (by omega))) ?_; rintro v12 w12 ⟨rfl, K12⟩
  refine ⟨Keep nof w12, fun u h => K12.trans h, Keep.refl _ _, ?_⟩
  have M12 := M3.step K12
  refine WP.as rfl rfl rfl rfl (Ac.call rfl Try.func19 nm19 rfl (num4_ok w12 _ 8 (hb4 2) (by omega))) ?_; rintro v13 w13 ⟨rfl, K13⟩
  refine ⟨Keep nof w13, fun u h => K13.trans h, Keep.refl _ _, ?_⟩
  have M13 := M12.step K13
  refine WP.p rfl rfl rfl rfl (fun _ => Ex.addS rfl rfl (by first | (simp; done) | (simp; omega) | omega)) ?_
  refine WP.as rfl rfl rfl rfl (Ac.call rfl Try.func19 nm19 rfl (num4_ok w13 _ 8 (hb4 1) (by omega))) ?_; rintro v15 w15 ⟨rfl, K15⟩
  refine ⟨Keep nof w15, fun u h => K15.trans h, Keep.refl _ _, ?_⟩
  have M15 := M13.step K15
  refine WP.p rfl rfl rfl rfl (fun _ => Ex.addS rfl rfl (by first | (simp; done) | (simp; omega) | omega)) ?_
  refine WP.as rfl rfl rfl rfl (Ac.call rfl Try.func19 nm19 rfl (num4_ok w15 _ 8 (hb4 0) (by omega))) ?_; rintro v17 w17 ⟨rfl, K17⟩
  refine ⟨Keep nof w17, fun u h => K17.trans h, Keep.refl _ _, ?_⟩
  have M17 := M15.step K17
  refine WP.p rfl rfl rfl rfl (fun _ => Ex.addS rfl rfl (by first | (simp; done) | (simp; omega) | omega)) ?_
  refine WP.p rfl rfl rfl rfl (fun _ => Ex.asg rfl) ?_
  refine WP.nil ?_
  refine WX.next (?_)
  refine WC.ret ?_
  refine WX.ret1 rfl rfl ?_
  exact ⟨congrArg str (intB_be a hl4).symm, M17.keep⟩

/- sponsion/sponsionref04.Value -/
theorem value4_ok (w : World) (l : List UInt8) (hl : l.length ≤ 8) :
    Gives Try.prog 30 #[str l] w fun u w1 => u = .int .u64 (beVal l : Int) ∧ Keep nof w w1 := by
  have M0 := Mem.start w nof
  refine Gives.enter (n := 19) Try.func30 rfl Try.ntmps30 rfl (env := [(0, str l)]) rfl ?_
  refine WC.seq ?_
  refine WC.region ?_
  refine WL.ex rfl rfl rfl (Ex.asg rfl) ?_
  refine WL.nil ?_
  refine WX.next (?_)
  refine WC.seq ?_
  refine WC.region ?_
  refine WL.ex rfl rfl rfl (Ex.asg rfl) ?_
  refine WL.nil ?_
  refine WX.next (?_)
  refine WC.seq ?_
  refine WC.seq ?_
  refine WC.region ?_
  refine WL.ex rfl rfl rfl (Ex.asg rfl) ?_
  refine WL.nil ?_
  refine WX.next (?_)
  refine WC.block ?_
  refine WC.loop (σ := Nat) (fun i => [(0, str l), (3, .int .u64 ((beVal (l.take i) : Nat) : Int)), (4, .int .i64 (i : Int))]) (fun i wr => i ≤ l.length ∧ Mem w wr nof []) (fun i => l.length - i) (0) ?_ (.cons rfl (.cons rfl (.cons rfl (.nil)))) ?_
  · exact ⟨by omega, M0⟩
  rintro i w4 ⟨hi, M4⟩
  refine WC.seq ?_
  refine WC.seq ?_
  refine WC.region ?_
  refine WL.ex rfl rfl rfl (Ex.mv rfl) ?_
  refine WL.ex rfl rfl rfl (Ex.mv rfl) ?_
  refine WL.ex rfl rfl rfl (Ex.lenS Try.underlying9 rfl) ?_
  refine WL.ex rfl rfl rfl (Ex.lss rfl rfl) ?_
  refine WL.nil ?_
  refine WX.next (?_)
  refine WC.cond_dec rfl (fun hc8 => ?_) (fun hc8 => ?_)
  · obtain ⟨b, hb⟩ : ∃ b, l[i]? = some b := ⟨_, List.getElem?_eq_getElem (by omega)⟩
    have hlt := beVal_lt (l.take i)
    have hp : 256 ^ (l.take i).length ≤ 256 ^ 7 := Nat.pow_le_pow_right (by omega) (by simp; omega)
    have hb8 := b.toNat_lt
    refine WC.skip ?_
    refine WX.next (?_)
    refine WC.seq ?_
    refine WC.block ?_
    refine WC.region ?_
    refine WL.ex rfl rfl rfl (Ex.mv rfl) ?_
    refine WL.ex rfl rfl rfl (Ex.mul rfl rfl (c := ((beVal (l.take i) * 256 : Nat) : Int)) (u64w_lt (beVal (l.take i) * 256) (by omega))) ?_
    refine WL.ex rfl rfl rfl (Ex.mv rfl) ?_
    refine WL.ex rfl rfl rfl (Ex.mv rfl) ?_
    refine WL.ex rfl rfl rfl (Ex.ixS Try.underlying9 rfl rfl (by omega) hb) ?_
    refine WL.ex rfl rfl rfl (Ex.cvI Try.underlying5 Try.underlying33 rfl (u64w_lt _ (by omega))) ?_
    refine WL.ex rfl rfl rfl (Ex.add rfl rfl (c := ((beVal (l.take i) * 256 + b.toNat : Nat) : Int)) (u64w_lt (beVal (l.take i) * 256 + b.toNat) (by omega))) ?_
    refine WL.ex rfl rfl rfl (Ex.asg rfl) ?_
    refine WL.nil ?_
    refine WX.normal_block (WX.next (?_))
    refine WC.region ?_
    refine WL.ex rfl rfl rfl (Ex.mv rfl) ?_
    refine WL.ex rfl rfl rfl (Ex.add rfl rfl (i64w _ (by omega) (by omega))) ?_
    refine WL.ex rfl rfl rfl (Ex.asg rfl) ?_
    refine WL.nil ?_
    refine WX.again (i + 1) ?_ ?_ (.cons rfl (.cons (by rw [take_snoc hb, beVal_snoc]; rfl) (.cons rfl .nil)))
    · (try dsimp only); omega
    · exact ⟨by omega, M4⟩
  · obtain rfl : i = l.length := by omega
    rw [List.take_length]
    refine WC.exit ?_
    refine WX.exit_then (WX.exit_then (WX.exit_block (WX.next (?_))))
    refine WC.seq ?_
    refine WC.region ?_
    refine WL.ex rfl rfl rfl (Ex.mv rfl) ?_
    refine WL.ex rfl rfl rfl (Ex.asg rfl) ?_
    refine WL.nil ?_
    refine WX.next (?_)
    refine WC.ret ?_
    refine WX.ret1 rfl rfl ?_
    exact ⟨rfl, M4.keep⟩

end Go.Proofs.Ytpngjgcbdaogmaa
