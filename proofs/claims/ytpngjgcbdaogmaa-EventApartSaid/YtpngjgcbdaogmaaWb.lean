/- Walks, written by gen.py off the translation's own print: each says what the Go function comes to. -/
import Derived.Test.YtpngjgcbdaogmaaWa
set_option linter.unusedVariables false
set_option linter.unusedSimpArgs false
namespace Go.Proofs.Ytpngjgcbdaogmaa
open Go.Sx Go.RowKit
attribute [local irreducible] Ac Ex WL WC WX WP Gives

/- sponsion/huge.Bytes -/
theorem hBytes_ok (w : World) (a : List Nat) (ha : Int4 a) :
    Gives Try.prog 61 #[.agg (intV a).toArray] w fun u w1 => u = .agg (bytesV (intB a)).toArray ∧ Keep nof w w1 := by
  have M0 := Mem.start w nof
  obtain ⟨hl4, hb4⟩ := ha
  refine Gives.enter (n := 24) Try.func61 rfl Try.ntmps61 rfl (env := [(0, .agg (intV a).toArray)]) rfl ?_
  refine WC.seq ?_
  refine WC.region ?_
  refine WL.ac rfl rfl rfl (Ac.box M0 rfl rfl) ?_; rintro v1 w1 ⟨g1, rfl, hg1, K1, M1⟩
  refine WL.ac rfl rfl rfl (Ac.alloc M1 (l := bytesV (List.replicate 32 0)) (by kernel_rfl)) ?_; rintro v2 w2 ⟨g2, rfl, hg2, K2, M2⟩
  refine WL.nil ?_
  refine WX.next (?_)
  refine WC.seq ?_
  refine WC.region ?_
  refine WL.ac rfl rfl rfl (Ac.alloc M2 (l := bytesV (List.replicate 32 0)) (by kernel_rfl)) ?_; rintro v3 w3 ⟨g3, rfl, hg3, K3, M3⟩
  refine WL.nil ?_
  refine WX.next (?_)
  refine WC.seq ?_
  refine WC.seq ?_
  refine WC.region ?_
  refine WL.ex rfl rfl rfl (Ex.mv rfl) ?_
  refine WL.nil ?_
  refine WX.next (?_)
  refine WC.block ?_
  refine WC.loop (σ := Nat) (fun i => [(1, .pointer (some ⟨g1, 0, none⟩)), (2, .pointer (some ⟨g2, 0, none⟩)), (3, .pointer (some ⟨g3, 0, none⟩)), (6, .int .i64 (i : Int))]) (fun i wr => i ≤ 32 ∧ Mem w wr nof [blk g3 (bytesV (fillTo 32 i (fun i => UInt8.ofNat (a.getD ((31 - i) / 8) 0 / 2 ^ (8 * ((31 - i) % 8)))) 0)) 36, blk g2 (bytesV (List.replicate 32 0)) 36, blk g1 (intV a) 35]) (fun i => 32 - i) (0) ?_ (.cons rfl (.cons rfl (.cons rfl (.cons rfl (.nil))))) ?_
  · exact ⟨by omega, by rw [fillTo_zero]; exact M3⟩
  rintro i w5 ⟨hi, M5⟩
  refine WC.seq ?_
  refine WC.region ?_
  refine WL.ex rfl rfl rfl (Ex.lss rfl rfl) ?_
  refine WL.nil ?_
  refine WX.next (?_)
  refine WC.seq ?_
  refine WC.cond_dec rfl (fun hc7 => ?_) (fun hc7 => ?_)
  · skip
    refine WC.skip ?_
    refine WX.next (?_)
    refine WC.seq ?_
    refine WC.block ?_
    refine WC.seq ?_
    refine WC.region ?_
    refine WL.ex rfl rfl rfl (Ex.mv rfl) ?_
    refine WL.ex rfl rfl rfl (Ex.asg rfl) ?_
    refine WL.nil ?_
    refine WX.next (?_)
    refine WC.seq ?_
    refine WC.region ?_
    refine WL.ex rfl rfl rfl (Ex.mv rfl) ?_
    refine WL.ex rfl rfl rfl (Ex.sub rfl rfl (c := ((31 - i : Nat) : Int)) (by rw [i64w _ (by omega) (by omega)]; omega)) ?_
    refine WL.ex rfl rfl rfl (Ex.asg rfl) ?_
    refine WL.nil ?_
    refine WX.next (?_)
    refine WC.region ?_
    refine WL.ex rfl rfl rfl (Ex.mv rfl) ?_
    refine WL.ex rfl rfl rfl (Ex.mv rfl) ?_
    refine WL.ex rfl rfl rfl (Ex.quo rfl rfl (by decide) (c := (((31 - i) / 8 : Nat) : Int)) (by rw [IntWalk.i64_quo _ _ (by omega)]; omega)) ?_
    refine WL.ex rfl rfl rfl (Ex.iaA Try.underlying35 sz33 rfl rfl ⟨by omega, by omega⟩) ?_
    refine WL.ex rfl rfl rfl (Ex.load ty33 rfl (M5.cell (i := 2) (v := .int .u64 ((a.getD ((31 - i) / 8) 0 : Nat) : Int)) rfl (by simp only [Int.toNat_natCast, Nat.mul_one, Nat.zero_add]; exact intV_get (by omega)))) ?_
    refine WL.ex rfl rfl rfl (Ex.mv rfl) ?_
    refine WL.ex rfl rfl rfl (Ex.rem rfl rfl (by decide) (c := (((31 - i) % 8 : Nat) : Int)) (by rw [Int.tmod_eq_emod_of_nonneg (by omega)]; omega)) ?_
    refine WL.ex rfl rfl rfl (Ex.mul rfl rfl (c := ((8 * ((31 - i) % 8) : Nat) : Int)) (by rw [i64w _ (by omega) (by omega)]; omega)) ?_
    refine WL.ex rfl rfl rfl (Ex.shr rfl rfl (m := 8 * ((31 - i) % 8)) rfl (shrN _ _ _ (by simp [IntKind.bits]; omega))) ?_
    refine WL.ex rfl rfl rfl (Ex.cvI Try.underlying33 Try.underlying5 rfl (u8b _)) ?_
    refine WL.ex rfl rfl rfl (Ex.iaA Try.underlying36 sz5 rfl rfl ⟨by omega, by omega⟩) ?_
    refine WL.ac0 rfl rfl (Ac.st M5 ty5 rfl rfl rfl (i := 0) rfl (by simp; omega)) ?_; rintro v23 w23 ⟨K23, M23⟩
    try dsimp only [List.set] at M23
    simp only [Int.toNat_natCast, Nat.mul_one, Nat.zero_add] at M23
    rw [bytesV_set, fillTo_set 32 i (fun i => UInt8.ofNat (a.getD ((31 - i) / 8) 0 / 2 ^ (8 * ((31 - i) % 8))))] at M23
    refine WL.nil ?_
    refine WX.normal_block (WX.next (?_))
    refine WC.region ?_
    refine WL.ex rfl rfl rfl (Ex.add rfl rfl (i64w _ (by omega) (by omega))) ?_
    refine WL.ex rfl rfl rfl (Ex.mv rfl) ?_
    refine WL.nil ?_
    refine WX.again (i + 1) ?_ ?_ (.cons rfl (.cons rfl (.cons rfl (.cons rfl (.nil)))))
    · (try dsimp only); omega
    · exact ⟨by omega, M23⟩
  · obtain rfl : i = 32 := by omega
    rw [fillTo_full 32 32 (Nat.le_refl _)] at M5
    refine WC.exit ?_
    refine WX.exit_then (WX.exit_then (WX.exit_block (WX.next (?_))))
    refine WC.seq ?_
    refine WC.region ?_
    refine WL.ex rfl rfl rfl (Ex.loadA ty36 rfl (l := bytesV (intB a)) (by simp) (M5.rdw (i := 0) rfl)) ?_
    refine WL.ac0 rfl rfl (Ac.stA M5 ty36 rfl rfl (vs := bytesV (intB a)) rfl (by simp) (bytesV_one _) (i := 1) rfl (by simp)) ?_; rintro v27 w27 ⟨K27, M27⟩
    try dsimp only [List.set] at M27
    rw [splice_all _ _ (by simp)] at M27
    refine WL.nil ?_
    refine WX.next (?_)
    refine WC.ret ?_
    refine WX.retc rfl rfl (run_loadVarA ty36 (l := bytesV (intB a)) (by simp) (M27.rdw (i := 1) rfl)) ?_
    exact ⟨rfl, M27.keep⟩

/- (*sponsion/pack.Writer).Int -/
theorem wInt_ok (w : World) (g : Nat) (v : Value) (l : List UInt8) (a : List Nat) (h : (wrR g v l).sat w) (ha : Int4 a) (hb : l.length ≤ 35184372088832) :
    Gives Try.prog 22 #[.pointer (some ⟨g, 0, none⟩), .agg (intV a).toArray] w fun u w1 => u = .pointer (some ⟨g, 0, none⟩) ∧ ∃ v1, Turn w w1 (wrR g v l) (wrR g v1 (l ++ intB a)) := by
  have M0 := Mem.begin h
  refine Gives.enter (n := 11) Try.func22 rfl Try.ntmps22 rfl (env := [(0, .pointer (some ⟨g, 0, none⟩)), (1, .agg (intV a).toArray)]) rfl ?_
  refine WC.seq ?_
  refine WC.region ?_
  refine WL.ac rfl rfl rfl (Ac.box M0 rfl rfl) ?_; rintro v1 w1 ⟨g1, rfl, hg1, K1, M1⟩
  refine WL.ex rfl rfl rfl (Ex.asg rfl) ?_
  refine WL.nil ?_
  refine WX.next (?_)
  refine WC.seq ?_
  refine WC.region ?_
  refine WL.ex rfl rfl rfl (Ex.loadA ty35 rfl (l := intV a) (by simpa using ha.1) (M1.rdw (i := 0) rfl)) ?_
  refine WL.ac rfl rfl rfl (Ac.call rfl Try.func61 nm61 rfl (hBytes_ok w1 a ha)) ?_; rintro v4 w4 ⟨rfl, K4⟩
  have M4 := M1.step K4
  refine WL.ac rfl rfl rfl (Ac.alloc M4 (l := bytesV (List.replicate 32 0)) (by kernel_rfl)) ?_; rintro v5 w5 ⟨gb, rfl, hg5, K5, M5⟩
  refine WL.ac0 rfl rfl (Ac.stA M5 ty36 rfl rfl (vs := bytesV (intB a)) rfl (by simp) (bytesV_one _) (i := 0) rfl (by simp)) ?_; rintro v6 w6 ⟨K6, M6⟩
  try dsimp only [List.set] at M6
  rw [splice_all _ _ (by simp)] at M6
  refine WL.nil ?_
  refine WX.next (?_)
  refine WC.seq ?_
  refine WC.region ?_
  refine WL.ex rfl rfl rfl (Ex.mv rfl) ?_
  refine WL.ex rfl rfl rfl (Ex.slA Try.underlying36 sz5 rfl) ?_
  refine WL.ac rfl rfl rfl (Ac.call rfl Try.func25 nm25 rfl (wRaw_ok w6 g v l _ 32 (intB a) (M6.get (i := 2) rfl) (M6.rdw (i := 0) rfl) hb (by simp))) ?_; rintro v9 w9 ⟨rfl, v1, T9⟩
  have M9 := M6.turned (i := 2) rfl T9
  refine WL.ex rfl rfl rfl (Ex.asg rfl) ?_
  refine WL.nil ?_
  refine WX.next (?_)
  refine WC.ret ?_
  refine WX.ret1 rfl rfl ?_
  exact ⟨rfl, v1, (Mem.sub M9 (.cons _ (.cons _ (.refl _)))).toTurn⟩

/- (*sponsion/pack.Writer).Hash -/
theorem wHash_ok (w : World) (g : Nat) (v : Value) (l : List UInt8) (m : List UInt8) (h : (wrR g v l).sat w) (hm : m.length = 32) (hb : l.length ≤ 35184372088832) :
    Gives Try.prog 24 #[.pointer (some ⟨g, 0, none⟩), .agg (bytesV m).toArray] w fun u w1 => u = .pointer (some ⟨g, 0, none⟩) ∧ ∃ v1, Turn w w1 (wrR g v l) (wrR g v1 (l ++ m)) := by
  have M0 := Mem.begin h
  refine Gives.enter (n := 8) Try.func24 rfl Try.ntmps24 rfl (env := [(0, .pointer (some ⟨g, 0, none⟩)), (1, .agg (bytesV m).toArray)]) rfl ?_
  refine WC.seq ?_
  refine WC.region ?_
  refine WL.ac rfl rfl rfl (Ac.box M0 rfl rfl) ?_; rintro v1 w1 ⟨g1, rfl, hg1, K1, M1⟩
  refine WL.ex rfl rfl rfl (Ex.asg rfl) ?_
  refine WL.nil ?_
  refine WX.next (?_)
  refine WC.seq ?_
  refine WC.region ?_
  refine WL.ex rfl rfl rfl (Ex.mv rfl) ?_
  refine WL.ex rfl rfl rfl (Ex.slA Try.underlying37 sz5 rfl) ?_
  refine WL.ac rfl rfl rfl (Ac.call rfl Try.func25 nm25 rfl ((by have := wRaw_ok w1 g v l (some ⟨g1, 0, none⟩) 32 m (M1.get (i := 1) rfl) (M1.rdw (i := 0) rfl) hb (by omega); rw [hm] at this; exact this))) ?_; rintro v5 w5 ⟨rfl, v1, T5⟩
  have M5 := M1.turned (i := 1) rfl T5
  refine WL.ex rfl rfl rfl (Ex.asg rfl) ?_
  refine WL.nil ?_
  refine WX.next (?_)
  refine WC.ret ?_
  refine WX.ret1 rfl rfl ?_
  exact ⟨rfl, v1, (Mem.sub M5 (.cons _ (.refl _))).toTurn⟩

/- sponsion/domain.Text -/
theorem text_ok (w : World) (tag : Nat) (A : Option Addr) (c : Nat) (ps : List SV) (ht : tag < 256) (hr : RdP w A ps) (hp : ∀ p ∈ ps, p.l.length < 4294967296) (hb : (txt tag (ps.map (·.l))).length ≤ 35184372088832) :
    Gives Try.prog 15 #[.int .u8 (tag : Int), .slice A ps.length c] w fun u w1 => New w w1 (row u 5 1 (txt tag (ps.map (·.l))).length (bytesV (txt tag (ps.map (·.l))))) := by
  have hlen : ps.length ≤ 35184372088832 := by
    rw [txt_length] at hb
    have h4 : ∀ l : List SV, 4 * l.length ≤ ((l.map (·.l)).map fun p => p.length + 4).sum := by
      intro l
      induction l with
      | nil => simp
      | cons a r ih => simp only [List.map_cons, List.sum_cons, List.length_cons]; omega
    have := h4 ps
    omega
  have M0 := (Mem.start w nof).free (r := row (.slice none 0 0) 5 1 ([] : List UInt8).length (bytesV [])) (row_nil _ _ _) rfl
  refine Gives.enter (n := 28) Try.func15 rfl Try.ntmps15 rfl (env := [(0, .int .u8 (tag : Int)), (1, .slice A ps.length c)]) rfl ?_
  refine WC.seq ?_
  refine WC.region ?_
  refine WL.ex rfl rfl rfl (Ex.asg rfl) ?_
  refine WL.nil ?_
  refine WX.next (?_)
  refine WC.seq ?_
  refine WC.region ?_
  refine WL.ex rfl rfl rfl (Ex.bld bd32 (parts := []) rfl rfl rfl rfl) ?_
  refine WL.ac rfl rfl rfl (Ac.box M0 rfl rfl) ?_; rintro v3 w3 ⟨g, rfl, hg3, K3, M3⟩
  have M3 := M3.close1 (fun v => [v])
  refine WL.ex rfl rfl rfl (Ex.mv rfl) ?_
  refine WL.ac rfl rfl rfl (Ac.call rfl Try.func18 nm18 rfl (wU8_ok w3 g _ [] tag (M3.get (i := 0) rfl) ht (by simp))) ?_; rintro v5 w5 ⟨rfl, v1, T5⟩
  have M5 := M3.turned (i := 0) rfl T5
  try dsimp only [List.set] at M5
  refine WL.ex rfl rfl rfl (Ex.asg rfl) ?_
  refine WL.nil ?_
  refine WX.next (?_)
  refine WC.seq ?_
  refine WC.seq ?_
  refine WC.region ?_
  refine WL.ex rfl rfl rfl (Ex.mv rfl) ?_
  refine WL.ex rfl rfl rfl (Ex.len Try.underlying22 rfl) ?_
  refine WL.ex rfl rfl rfl (Ex.mv rfl) ?_
  refine WL.nil ?_
  refine WX.next (?_)
  refine WC.block ?_
  refine WC.loop (σ := Nat) (fun i => [(5, .pointer (some ⟨g, 0, none⟩)), (12, .slice A ps.length c), (13, .int .i64 (ps.length : Int)), (14, .int .i64 (i : Int))]) (fun i wr => i ≤ ps.length ∧ ∃ v, Mem w wr nof [wrR g v (txt tag ((ps.map (·.l)).take i))]) (fun i => ps.length - i) (0) ?_ (.cons rfl (.cons rfl (.cons rfl (.cons rfl (.nil))))) ?_
  · exact ⟨by omega, v1, M5⟩
  rintro i w10 ⟨hi, v, M10⟩
  refine WC.seq ?_
  refine WC.region ?_
  refine WL.ex rfl rfl rfl (Ex.lss rfl rfl) ?_
  refine WL.nil ?_
  refine WX.next (?_)
  refine WC.seq ?_
  refine WC.cond_dec rfl (fun hc15 => ?_) (fun hc15 => ?_)
  · obtain ⟨p, hpi⟩ : ∃ p, ps[i]? = some p := ⟨_, List.getElem?_eq_getElem (by omega)⟩
    have hpm : p ∈ ps := List.mem_of_getElem? hpi
    have hp4 := hp p hpm
    have hacc := txt_take_le tag (ps.map (·.l)) i
    have hacc1 := txt_take_le tag (ps.map (·.l)) (i + 1)
    have hsn : (ps.map (·.l)).take (i + 1) = (ps.map (·.l)).take i ++ [p.l] := take_snoc (by simp [hpi])
    rw [hsn, txt_snoc] at hacc1
    simp only [List.length_append, be_length] at hacc1
    obtain ⟨b, o, hA, _⟩ := hr.1.plain (by simp; omega)
    subst hA
    refine WC.skip ?_
    refine WX.next (?_)
    refine WC.seq ?_
    refine WC.block ?_
    refine WC.seq ?_
    refine WC.region ?_
    refine WL.ex rfl rfl rfl (Ex.ia Try.underlying22 sz25 rfl rfl ⟨by omega, by omega⟩) ?_
    refine WL.ex rfl rfl rfl (Ex.load ty25 rfl (Rd.at1 (u := svV p) (hr.keep M10.keep).1 (j := (i : Int).toNat * 1) (by simp [hpi]))) ?_
    refine WL.ex rfl rfl rfl (Ex.asg rfl) ?_
    refine WL.nil ?_
    refine WX.next (?_)
    refine WC.region ?_
    refine WL.ex rfl rfl rfl (Ex.mv rfl) ?_
    refine WL.ex rfl rfl rfl (Ex.mv rfl) ?_
    refine WL.ex rfl rfl rfl (Ex.len Try.underlying25 rfl) ?_
    refine WL.ex rfl rfl rfl (Ex.cvI Try.underlying3 Try.underlying43 rfl (by first | exact u32w_lt _ (by omega) | exact u32w _)) ?_
    refine WL.ac rfl rfl rfl (Ac.call rfl Try.func20 nm20 rfl (wU32_ok w10 g v _ p.l.length (M10.get (i := 0) rfl) hp4 (by omega))) ?_; rintro v19 w19 ⟨rfl, v2, T19⟩
    have M19 := M10.turned (i := 0) rfl T19
    try dsimp only [List.set] at M19
    refine WL.ex rfl rfl rfl (Ex.mv rfl) ?_
    refine WL.ac rfl rfl rfl (Ac.call rfl Try.func25 nm25 rfl (wRaw_ok w19 g v2 _ p.A p.c p.l (M19.get (i := 0) rfl) ((hr.keep M19.keep).2 p hpm) (by simp only [List.length_append, be_length]; omega) (by omega))) ?_; rintro v21 w21 ⟨rfl, v3, T21⟩
    have M21 := M19.turned (i := 0) rfl T21
    try dsimp only [List.set] at M21
    rw [← txt_snoc, ← hsn] at M21
    refine WL.nil ?_
    refine WX.normal_block (WX.next (?_))
    refine WC.region ?_
    refine WL.ex rfl rfl rfl (Ex.add rfl rfl (i64w _ (by omega) (by omega))) ?_
    refine WL.ex rfl rfl rfl (Ex.mv rfl) ?_
    refine WL.nil ?_
    refine WX.again (i + 1) ?_ ?_ (.cons rfl (.cons rfl (.cons rfl (.cons rfl (.nil)))))
    · (try dsimp only); omega
    · exact ⟨by omega, v3, M21⟩
  · obtain rfl : i = ps.length := by omega
    refine WC.exit ?_
    refine WX.exit_then (WX.exit_then (WX.exit_block (WX.next (?_))))
    refine WC.seq ?_
    refine WC.region ?_
    refine WL.ex rfl rfl rfl (Ex.mv rfl) ?_
    refine WL.ac rfl rfl rfl (Ac.call rfl Try.func26 nm26 rfl (wBytes_ok w10 g v _ (M10.get (i := 0) rfl) (by rw [List.take_of_length_le (by simp)]; exact hb))) ?_; rintro v25 w25 N25
    have M25 := M10.new N25
    rw [List.take_of_length_le (by simp)] at M25
    refine WL.ex rfl rfl rfl (Ex.asg rfl) ?_
    refine WL.nil ?_
    refine WX.next (?_)
    refine WC.ret ?_
    refine WX.ret1 rfl rfl ?_
    exact M25.toNew

end Go.Proofs.Ytpngjgcbdaogmaa
