/- Walks, written by gen.py off the translation's own print: each says what the Go function comes to. -/
import Derived.Test.YtpngjgcbdaogmaaWs
set_option linter.unusedVariables false
set_option linter.unusedSimpArgs false
namespace Go.Proofs.Ytpngjgcbdaogmaa
open Go.Sx Go.RowKit
attribute [local irreducible] Ac Ex WL WC WX WP Gives

theorem be1 (x : Nat) : be 1 x = [UInt8.ofNat x] := by simp [be]
theorem u8_byte {x : Nat} (h : x < 256) : (.int .u8 (x : Int) : Value) = byteV (UInt8.ofNat x) := by
  rw [byteV]
  congr 1
  simp
  omega
theorem four1 {t : Ev} (h : EvOk t) : ([.int .u8 (t.sd : Int), .int .u8 (t.tk : Int), .int .u8 (t.fr : Int), .int .u8 (t.to : Int)] : List Value) = bytesV (be 1 t.sd ++ (be 1 t.tk ++ (be 1 t.fr ++ be 1 t.to))) := by
  rw [u8_byte h.sd, u8_byte h.tk, u8_byte h.fr, u8_byte h.to]
  simp [be1, bytesV]

/- sponsion/sponsionref09.Text -/
theorem text9_ok (w : World) (t : Ev) (ht : EvOk t) :
    Gives Try.prog 53 #[.agg (evC t).toArray] w fun u w1 => u = str (evB t) ∧ Keep nof w w1 := by
  have M0 := Mem.start w nof
  have hk := ht.k
  have hb := ht.b
  have hi := ht.id
  have ha := ht.am
  have hf := ht.fe
  have hbt := ht.bt
  have hne : ∀ b : Nat, ¬ nof b := fun _ f => f
  refine Gives.enter (n := 42) Try.func53 rfl Try.ntmps53 rfl (env := [(0, .agg (evC t).toArray)]) rfl ?_
  refine WC.seq ?_
  refine WC.region ?_
  refine WL.ac rfl rfl rfl (Ac.box M0 (l := evC t) rfl rfl) ?_; rintro v1 w1 ⟨gi, rfl, hg1, K1, M1⟩
  refine WL.ex rfl rfl rfl (Ex.asg rfl) ?_
  refine WL.nil ?_
  refine WX.next (?_)
  refine WC.seq ?_
  refine WC.draw (Keep nof w1.drew) [] (.one 0 0 (.one 4 0 (.one 8 0 (.one 9 0 (.one 1 1 (.one 2 0 (.one 5 1 (.one 10 1 (.one 3 2 (.one 6 2 (.one 7 0 (.one 11 0 (.one 12 0 .nil))))))))))))) mixed (by kernel_rfl) (by kernel_rfl) (by kernel_rfl) (HQ.then_ HQ.body) ?_
  obtain ⟨w3, hw3⟩ : ∃ v, v = w1.drew := ⟨_, rfl⟩
  have D3 : Keep nof w1 w3 := by rw [hw3]; exact Keep.drew _ _
  have M3 := M1.step D3
  rw [← hw3]; clear hw3
  refine WP.p rfl rfl rfl rfl (fun _ => Ex.fa fl89_0 rfl) ?_
  refine WP.p rfl rfl rfl rfl (fun _ => Ex.fa fl89_1 rfl) ?_
  refine WP.p rfl rfl rfl rfl (fun _ => Ex.fa fl89_2 rfl) ?_
  refine WP.p rfl rfl rfl rfl (fun _ => Ex.slA Try.underlying37 sz5 rfl) ?_
  refine WP.q (Keep.refl _ _) rfl rfl rfl rfl (fun w' hS => Ex.load ty5 rfl (hS.cell (M3.cell (i := 0) (v := .int .u8 (t.k : Int)) rfl rfl) (fun f => f))) ?_
  refine WP.p rfl rfl rfl rfl (fun _ => Ex.cvI Try.underlying5 Try.underlying33 rfl (u64w_lt _ (by omega))) ?_
  refine WP.q (Keep.refl _ _) rfl rfl rfl rfl (fun w' hS => Ex.load ty33 rfl (hS.cell (M3.cell (i := 0) (v := .int .u64 (t.b : Int)) rfl rfl) (fun f => f))) ?_
  refine WP.q (Keep.refl _ _) rfl rfl rfl rfl (fun w' hS => Ex.cvBSn Try.underlying25 Try.underlying5 Try.underlying9 rfl hi.symm ((M3.rdt (i := 0) rfl (ev_2 ht)).keep0 hS)) ?_
  refine WP.as rfl rfl rfl rfl (Ac.call rfl Try.func19 nm19 rfl (num4_ok w3 _ _ (by first | omega | decide) (by first | omega | decide))) ?_; rintro v12 w12 ⟨rfl, K12⟩
  refine ⟨Keep nof w12, fun u h => K12.trans h, Keep.refl _ _, ?_⟩
  have M12 := M3.step K12
  refine WP.as rfl rfl rfl rfl (Ac.call rfl Try.func19 nm19 rfl (num4_ok w12 _ _ (by first | omega | decide) (by first | omega | decide))) ?_; rintro v13 w13 ⟨rfl, K13⟩
  refine ⟨Keep nof w13, fun u h => K13.trans h, Keep.refl _ _, ?_⟩
  have M13 := M12.step K13
  refine WP.p rfl rfl rfl rfl (fun _ => Ex.addS rfl rfl (by first | (simp; done) | (simp; omega) | omega)) ?_
  refine WP.p rfl rfl rfl rfl (fun _ => Ex.addS rfl rfl (by first | (simp; done) | (simp; omega) | omega)) ?_
  refine WP.p rfl rfl rfl rfl (fun _ => Ex.asg rfl) ?_
  refine WP.nil ?_
  refine WX.next (?_)
  refine WC.seq ?_
  refine WC.region ?_
  refine WL.ex rfl rfl rfl (Ex.mv rfl) ?_
  refine WL.ex rfl rfl rfl (Ex.fa fl89_3 rfl) ?_
  refine WL.ex rfl rfl rfl (Ex.load ty5 rfl (M13.cell (i := 0) rfl (ev_34 ht))) ?_
  refine WL.ex rfl rfl rfl (Ex.fa fl89_4 rfl) ?_
  refine WL.ex rfl rfl rfl (Ex.load ty5 rfl (M13.cell (i := 0) rfl (ev_35 ht))) ?_
  refine WL.ex rfl rfl rfl (Ex.fa fl89_5 rfl) ?_
  refine WL.ex rfl rfl rfl (Ex.load ty5 rfl (M13.cell (i := 0) rfl (ev_36 ht))) ?_
  refine WL.ex rfl rfl rfl (Ex.fa fl89_6 rfl) ?_
  refine WL.ex rfl rfl rfl (Ex.load ty5 rfl (M13.cell (i := 0) rfl (ev_37 ht))) ?_
  refine WL.ac rfl rfl rfl (Ac.bs M13 (parts := [(0, .tmp 18), (1, .tmp 20), (2, .tmp 22), (3, .tmp 24)]) rfl rfl (LitS.ones el25 [.int .u8 (t.sd : Int), .int .u8 (t.tk : Int), .int .u8 (t.fr : Int), .int .u8 (t.to : Int)] (by simp [Value.cells]) (by simp))) ?_; rintro v26 w26 ⟨g26, rfl, hg26, K26, M26⟩
  rw [four1 ht] at M26
  refine WL.ex rfl rfl rfl (Ex.cvBSn Try.underlying25 Try.underlying5 Try.underlying9 rfl (by simp) (M26.rdw (i := 0) rfl)) ?_
  refine WL.ex rfl rfl rfl (Ex.addS rfl rfl (by first | (simp; done) | (simp; omega) | omega)) ?_
  refine WL.ex rfl rfl rfl (Ex.asg rfl) ?_
  refine WL.nil ?_
  refine WX.next (?_)
  refine WC.seq ?_
  refine WC.draw (Keep nof w26.drew) [] (.one 0 0 (.one 1 0 (.one 5 0 (.one 9 0 (.one 2 1 (.one 6 1 (.one 10 1 (.one 11 0 (.one 3 2 (.one 4 0 (.one 7 2 (.one 8 0 (.one 12 2 (.one 13 0 (.one 14 0 .nil))))))))))))))) mixed (by kernel_rfl) (by kernel_rfl) (by kernel_rfl) (HQ.then_ HQ.body) ?_
  obtain ⟨w30, hw30⟩ : ∃ v, v = w26.drew := ⟨_, rfl⟩
  have D30 : Keep nof w26 w30 := by rw [hw30]; exact Keep.drew _ _
  have M30 := M26.step D30
  rw [← hw30]; clear hw30
  refine WP.p rfl rfl rfl rfl (fun _ => Ex.mv rfl) ?_
  refine WP.p rfl rfl rfl rfl (fun _ => Ex.fa fl89_7 rfl) ?_
  refine WP.p rfl rfl rfl rfl (fun _ => Ex.fa fl89_8 rfl) ?_
  refine WP.p rfl rfl rfl rfl (fun _ => Ex.fa fl89_9 rfl) ?_
  refine WP.q (Keep.refl _ _) rfl rfl rfl rfl (fun w' hS => Ex.loadA ty35 rfl (l := intV t.am) (by simpa using ha.1) ((M30.rdt (i := 1) rfl (ev_38 ht)).keep0 hS)) ?_
  refine WP.q (Keep.refl _ _) rfl rfl rfl rfl (fun w' hS => Ex.loadA ty35 rfl (l := intV t.fe) (by simpa using hf.1) ((M30.rdt (i := 1) rfl (ev_42 ht)).keep0 hS)) ?_
  refine WP.q (Keep.refl _ _) rfl rfl rfl rfl (fun w' hS => Ex.load ty43 rfl (hS.cell (M30.cell (i := 1) rfl (ev_46 ht)) (fun f => f))) ?_
  refine WP.p rfl rfl rfl rfl (fun _ => Ex.cvI Try.underlying43 Try.underlying33 rfl (u64w_lt _ (by omega))) ?_
  refine WP.as rfl rfl rfl rfl (Ac.call rfl Try.func23 nm23 rfl (int4_ok w30 _ ‹_›)) ?_; rintro v39 w39 ⟨rfl, K39⟩
  refine ⟨Keep nof w39, fun u h => K39.trans h, Keep.refl _ _, ?_⟩
  have M39 := M30.step K39
  refine WP.p rfl rfl rfl rfl (fun _ => Ex.addS rfl rfl (by first | (simp; done) | (simp; omega) | omega)) ?_
  refine WP.as rfl rfl rfl rfl (Ac.call rfl Try.func23 nm23 rfl (int4_ok w39 _ ‹_›)) ?_; rintro v41 w41 ⟨rfl, K41⟩
  refine ⟨Keep nof w41, fun u h => K41.trans h, Keep.refl _ _, ?_⟩
  have M41 := M39.step K41
  refine WP.p rfl rfl rfl rfl (fun _ => Ex.addS rfl rfl (by first | (simp; done) | (simp; omega) | omega)) ?_
  refine WP.as rfl rfl rfl rfl (Ac.call rfl Try.func19 nm19 rfl (num4_ok w41 _ _ (by first | omega | decide) (by first | omega | decide))) ?_; rintro v43 w43 ⟨rfl, K43⟩
  refine ⟨Keep nof w43, fun u h => K43.trans h, Keep.refl _ _, ?_⟩
  have M43 := M41.step K43
  refine WP.p rfl rfl rfl rfl (fun _ => Ex.addS rfl rfl (by first | (simp; done) | (simp; omega) | omega)) ?_
  refine WP.p rfl rfl rfl rfl (fun _ => Ex.asg rfl) ?_
  refine WP.nil ?_
  refine WX.next (?_)
  refine WC.ret ?_
  refine WX.ret1 rfl rfl ?_
  exact ⟨congrArg str (by simp only [evB, List.append_assoc]), M43.keep⟩

end Go.Proofs.Ytpngjgcbdaogmaa
