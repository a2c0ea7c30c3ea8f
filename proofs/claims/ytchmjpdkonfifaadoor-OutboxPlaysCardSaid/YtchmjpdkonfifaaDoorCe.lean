/- Walks, written by gen.py off the translation's own print: each says what the Go function comes to. -/
import Derived.Test.YtchmjpdkonfifaaDoorCa
import Derived.Test.YtchmjpdkonfifaaDoorDa
set_option linter.unusedVariables false
set_option linter.unusedSimpArgs false
namespace Go.Proofs.YtchmjpdkonfifaaDoor
open Go.Sx Go.RowKit
attribute [local irreducible] Ac Ex WL WC WX WP Gives

/- (*sponsion/digest.State).Sum -/
theorem ssum_ok (w : World) (g : Nat) (v : Value) (l : List UInt8) (h : (stR g v l).sat w) (hT : Tabs w) (hb : l.length ≤ 1000000000000) :
    Gives Tryd.prog 115 #[.pointer (some ⟨g, 0, none⟩)] w fun u w1 => u = .agg (bytesV (sha l)).toArray ∧ Keep nof w w1 := by
  have M0 := Mem.start w nof
  have hws := stW_ok l
  have hq : ∀ {w1 : World}, Keep nof w w1 → (blk g (stC (stW l) v l.length) 189).sat w1 := fun k => (Res.keep0 (r := stR g v l) h k).1
  obtain ⟨A, c, hv⟩ := mrw_len h.2.1
  rw [bytesV_length] at hv
  subst hv
  have hrd := mrw_rd h.2.1
  refine Gives.enter (n := 73) Tryd.func115 rfl Tryd.ntmps115 rfl (env := [(0, .pointer (some ⟨g, 0, none⟩))]) rfl ?_
  refine WC.seq ?_
  refine WC.region ?_
  refine WL.ac rfl rfl rfl (Ac.alloc M0 (l := bytesV (List.replicate 32 0)) (by kernel_rfl)) ?_; rintro v1 w1 ⟨g1, rfl, hg1, K1, M1⟩
  refine WL.nil ?_
  refine WX.next (?_)
  refine WC.seq ?_
  refine WC.draw (Keep nof w1.drew) [] (.one 0 0 (.one 1 0 (.one 2 0 (.one 4 0 (.one 5 0 (.one 6 0 (.one 9 0 (.one 10 0 (.one 11 0 (.one 3 1 (.one 7 1 (.one 12 1 (.one 8 2 (.one 13 0 (.one 14 2 (.one 15 0 .nil)))))))))))))))) mixed (by kernel_rfl) (by kernel_rfl) (by kernel_rfl) (HQ.then_ HQ.body) ?_
  obtain ⟨w2, hw2⟩ : ∃ v, v = w1.drew := ⟨_, rfl⟩
  have D2 : Keep nof w1 w2 := by rw [hw2]; exact Keep.drew _ _
  have M2 := M1.step D2
  rw [← hw2]; clear hw2
  refine WP.p rfl rfl rfl rfl (fun _ => Ex.mv rfl) ?_
  refine WP.p rfl rfl rfl rfl (fun _ => Ex.nilc rfl) ?_
  refine WP.p rfl rfl rfl rfl (fun _ => Ex.fa fl189_0 rfl) ?_
  refine WP.p rfl rfl rfl rfl (fun _ => Ex.mv rfl) ?_
  refine WP.p rfl rfl rfl rfl (fun _ => Ex.nilc rfl) ?_
  refine WP.p rfl rfl rfl rfl (fun _ => Ex.fa fl189_1 rfl) ?_
  refine WP.p rfl rfl rfl rfl (fun _ => Ex.mv rfl) ?_
  refine WP.p rfl rfl rfl rfl (fun _ => Ex.nilc rfl) ?_
  refine WP.p rfl rfl rfl rfl (fun _ => Ex.fa fl189_2 rfl) ?_
  refine WP.q (Keep.refl _ _) rfl rfl rfl rfl (fun w' hS => Ex.loadA ty164 rfl (u32s_len hws) (blk_rdt (hq (M2.keep.trans hS)) (u32V_pre hws.1))) ?_
  refine WP.q (Keep.refl _ _) rfl rfl rfl rfl (fun w' hS => Ex.load ty112 rfl (blk_cell (hq (M2.keep.trans hS)) (stC_8 hws.1 _ _))) ?_
  refine WP.q (Keep.refl _ _) rfl rfl rfl rfl (fun w' hS => Ex.load ty23 rfl (blk_cell (hq (M2.keep.trans hS)) (stC_9 hws.1 _ _))) ?_
  refine WP.as rfl rfl rfl rfl (Ac.call rfl Tryd.func105 nm105 rfl (clone_ok w2 A c (stB l) (hrd.keep0 M2.keep) (by rw [stB_length]; omega))) ?_; rintro v15 w15 N15
  refine ⟨Keep nof w15, fun u h => N15.keep.trans h, Keep.refl _ _, ?_⟩
  have M15 := M2.new N15
  obtain ⟨v2, rfl⟩ : ∃ v2, v2 = v15 := ⟨_, rfl⟩
  refine WP.p rfl rfl rfl rfl (fun _ => Ex.bldS bd189 (parts := [(0, .tmp 11), (1, .tmp 16), (2, .tmp 20)]) [u32V (stW l), [v2], [.int .u64 (l.length : Int)]] (l := stC (stW l) v2 l.length) rfl rfl rfl (by refine okS_step' (A := []) (z := List.replicate 8 (.int .u32 0)) (R := [.slice none 0 0, .int .u64 0]) rfl rfl (by simp [hws.1]) (okS_step' (z := [.slice none 0 0]) (R := [.int .u64 0]) (by simp [hws.1]) (by obtain ⟨_, _, hv⟩ := own_slice (M15.get (i := 0) rfl); rw [hv]; rfl) rfl (okS_step' (z := [.int .u64 0]) (R := []) (by simp [hws.1]) rfl rfl ?_)); show _ = _; simp [stC])) ?_
  refine WP.as rfl rfl rfl rfl (Ac.box M15 rfl rfl) ?_; rintro v17 w17 ⟨ge, rfl, hg17, K17, M17⟩
  refine ⟨Keep nof w17, fun u h => K17.trans h, Keep.refl _ _, ?_⟩
  replace M17 := (M17.view (i := 1) rfl (r' := mrw v2 5 (bytesV (stB l))) mrw_of_row (fun b hb => hb)).closeS
  have hTe := (M17.own _ (List.mem_of_getElem? (i := 0) rfl) ge (by simp [sep, blk])).elim (fun hle => hT.fresh hle) (fun f => f.elim)
  refine WP.p rfl rfl rfl rfl (fun _ => Ex.asg rfl) ?_
  refine WP.nil ?_
  refine WX.next (?_)
  refine WC.seq ?_
  refine WC.region ?_
  refine WL.ac rfl rfl rfl (Ac.bs M17 (parts := [(0, .const (.int .u8 128))]) (l := bytesV [128]) rfl rfl (LitS.one el112 rfl)) ?_; rintro v19 w19 ⟨gb, rfl, hg19, K19, M19⟩
  refine WL.ex rfl rfl rfl (Ex.mv rfl) ?_
  refine WL.ex rfl rfl rfl (Ex.nilc rfl) ?_
  refine WL.ex rfl rfl rfl (Ex.fa fl189_2 rfl) ?_
  refine WL.ex rfl rfl rfl (Ex.load ty23 rfl (blk_cell (hq M19.keep) (stC_9 hws.1 _ _))) ?_
  refine WL.ex rfl rfl rfl (Ex.rem rfl rfl (by decide) (c := ((l.length % 64 : Nat) : Int)) (remN _ 64)) ?_
  refine WL.ex rfl rfl rfl (Ex.sub rfl rfl (c := ((119 - l.length % 64 : Nat) : Int)) (by rw [show (119 : Int) - ((l.length % 64 : Nat) : Int) = ((119 - l.length % 64 : Nat) : Int) by omega]; exact u64w_lt _ (by omega))) ?_
  refine WL.ex rfl rfl rfl (Ex.rem rfl rfl (by decide) (c := (((119 - l.length % 64) % 64 : Nat) : Int)) (remN _ 64)) ?_
  refine WL.ac rfl rfl rfl (Ac.app0 M19 (zv := .int .u8 0) el112 Tryd.underlying23 (by kernel_rfl) (by decide) rfl rfl rfl (i := 0) rfl rfl rfl (by omega) (by simp [maxLen]; omega)) ?_; rintro v27 w27 ⟨K27, M27⟩
  try dsimp only [List.set] at M27
  obtain ⟨v3, rfl⟩ : ∃ v3, v3 = v27 := ⟨_, rfl⟩
  replace M27 := M27.eqv (i := 0) rfl (r' := row v3 5 1 (tailTo l.length 0).length (bytesV (tailTo l.length 0))) (by rw [tailTo_length]; simp [tailTo, bytesV, byteV, Nat.add_comm])
  try dsimp only [List.set] at M27
  refine WL.ex rfl rfl rfl (Ex.asg rfl) ?_
  refine WL.nil ?_
  refine WX.next (?_)
  refine WC.seq ?_
  refine WC.seq ?_
  refine WC.region ?_
  refine WL.ex rfl rfl rfl (Ex.mv rfl) ?_
  refine WL.nil ?_
  refine WX.next (?_)
  refine WC.block ?_
  refine WC.loop (σ := Nat × Value) (fun s => [(0, .pointer (some ⟨g, 0, none⟩)), (2, .pointer (some ⟨g1, 0, none⟩)), (3, .pointer (some ⟨ge, 0, none⟩)), (4, s.2), (32, .int .i64 (s.1 : Int))]) (fun s wr => s.1 ≤ 8 ∧ Mem w wr nof [row s.2 5 1 (tailTo l.length s.1).length (bytesV (tailTo l.length s.1)), stR ge v2 l, blk g1 (bytesV (List.replicate 32 0)) 31]) (fun s => 8 - s.1) (((0, v3) : Nat × Value)) ?_ (.cons rfl (.cons rfl (.cons rfl (.cons rfl (.cons rfl (.nil)))))) ?_
  · exact ⟨by dsimp only; omega, M27⟩
  rintro ⟨i, v4⟩ w30 ⟨hi, M30⟩
  dsimp only at hi M30
  refine WC.sub (env' := [(0, .pointer (some ⟨g, 0, none⟩)), (2, .pointer (some ⟨g1, 0, none⟩)), (3, .pointer (some ⟨ge, 0, none⟩)), (4, v4), (32, .int .i64 (i : Int))]) (.cons rfl (.cons rfl (.cons rfl (.cons rfl (.cons rfl (.nil)))))) ?_
  refine WC.seq ?_
  refine WC.region ?_
  refine WL.ex rfl rfl rfl (Ex.lss rfl rfl) ?_
  refine WL.nil ?_
  refine WX.next (?_)
  refine WC.seq ?_
  refine WC.cond_dec rfl (fun hi8 => ?_) (fun hi8 => ?_)
  · have hi8b : i < 8 := by omega
    have htl := tailTo_length l.length i
    refine WC.skip ?_
    refine WX.next (?_)
    refine WC.seq ?_
    refine WC.block ?_
    refine WC.seq ?_
    refine WC.region ?_
    refine WL.ex rfl rfl rfl (Ex.mv rfl) ?_
    refine WL.ex rfl rfl rfl (Ex.asg rfl) ?_
    refine WL.nil ?_
    refine WX.next (?_)
    refine WC.region ?_
    refine WL.ex rfl rfl rfl (Ex.mv rfl) ?_
    refine WL.ex rfl rfl rfl (Ex.mv rfl) ?_
    refine WL.ex rfl rfl rfl (Ex.nilc rfl) ?_
    refine WL.ex rfl rfl rfl (Ex.fa fl189_2 rfl) ?_
    refine WL.ex rfl rfl rfl (Ex.load ty23 rfl (blk_cell (hq M30.keep) (stC_9 hws.1 _ _))) ?_
    refine WL.ex rfl rfl rfl (Ex.mul rfl rfl (c := ((8 * l.length : Nat) : Int)) (by rw [show (8 : Int) * (l.length : Int) = ((8 * l.length : Nat) : Int) by omega]; exact u64w_lt _ (by omega))) ?_
    refine WL.ex rfl rfl rfl (Ex.mv rfl) ?_
    refine WL.ex rfl rfl rfl (Ex.mul rfl rfl (c := ((8 * i : Nat) : Int)) (by rw [i64w _ (by omega) (by omega)]; omega)) ?_
    refine WL.ex rfl rfl rfl (Ex.sub rfl rfl (c := ((56 - 8 * i : Nat) : Int)) (by rw [i64w _ (by omega) (by omega)]; omega)) ?_
    refine WL.ex rfl rfl rfl (Ex.shr rfl rfl (m := 56 - 8 * i) rfl (shrN _ _ _ (by simp [IntKind.bits]; omega))) ?_
    refine WL.ex rfl rfl rfl (Ex.cvI Tryd.underlying23 Tryd.underlying5 rfl (u8b _)) ?_
    refine WL.ac rfl rfl rfl (Ac.bs M30 (parts := [(0, .tmp 45)]) rfl rfl (LitS.one el112 rfl)) ?_; rintro v45 w45 ⟨gl, rfl, hg45, K45, M45⟩
    refine WL.ac rfl rfl rfl (Ac.app M45 el112 rfl rfl (i := 1) rfl rfl (M45.rdw (i := 0) rfl) (by simp [Value.oneCell']) (by omega) (by simp [maxLen]; omega)) ?_; rintro v46 w46 ⟨K46, M46⟩
    try dsimp only [List.set] at M46
    obtain ⟨v5, rfl⟩ : ∃ v5, v5 = v46 := ⟨_, rfl⟩
    rw [bytesV_snoc, len_snoc, tailTo_succ _ hi8b] at M46
    refine WL.ex rfl rfl rfl (Ex.asg rfl) ?_
    refine WL.nil ?_
    refine WX.normal_block (WX.next (?_))
    refine WC.region ?_
    refine WL.ex rfl rfl rfl (Ex.add rfl rfl (i64w _ (by omega) (by omega))) ?_
    refine WL.ex rfl rfl rfl (Ex.mv rfl) ?_
    refine WL.nil ?_
    refine WX.again (((i + 1, v5) : Nat × Value)) ?_ ?_ (.cons rfl (.cons rfl (.cons rfl (.cons rfl (.cons rfl (.nil))))))
    · (try dsimp only); omega
    · exact ⟨by dsimp only; omega, (Mem.sub M46 (.cons _ (.refl _)))⟩
  · obtain rfl : i = 8 := by omega
    rw [tailTo_8] at M30
    obtain ⟨A4, c4, rfl⟩ := own_slice (M30.get (i := 0) rfl)
    refine WC.exit ?_
    refine WX.exit_then (WX.exit_then (WX.exit_block (WX.next (?_))))
    refine WC.seq ?_
    refine WC.region ?_
    refine WL.ex rfl rfl rfl (Ex.mv rfl) ?_
    refine WL.ex rfl rfl rfl (Ex.mv rfl) ?_
    refine WL.ac rfl rfl rfl (Ac.bs M30 (parts := [(0, .tmp 50)]) (l := [svV ⟨A4, c4, tail l.length⟩]) rfl rfl (LitS.one el153 rfl)) ?_; rintro v52 w52 ⟨gs, rfl, hg52, K52, M52⟩
    refine WL.ac rfl rfl rfl (Ac.call rfl Tryd.func114 nm114 rfl (sadd_ok w52 ge v2 l (some ⟨gs, 0, none⟩) 1 [⟨A4, c4, tail l.length⟩] (M52.get (i := 2) rfl) (RdA.one (M52.get (i := 0) rfl) (M52.apart (i := 0) (j := 2) rfl rfl (by decide) gs (by simp [blk])) (M52.rdr (i := 1) rfl) (fun a ha _ => M52.apart (i := 1) (j := 2) rfl rfl (by decide) a.block (row_nblk ha))) (hT.keep M52.keep) hTe (by simp [flatP, tail_length]; omega) (by simp) (fun b hb => ((M52.own _ (List.mem_of_getElem? (i := 2) rfl) b hb).elim (fun hle => hT.fresh hle) (fun f => f.elim))))) ?_; rintro v53 w53 ⟨rfl, v6, T53⟩
    rw [show flatP [⟨A4, c4, tail l.length⟩] = tail l.length by simp [flatP]] at T53
    have M53 := (M52.turned (i := 2) rfl T53).sub (.cons _ (.cons _ (.refl _)))
    try dsimp only [List.set] at M53
    have hwt := stW_ok (l ++ tail l.length)
    refine WL.nil ?_
    refine WX.next (?_)
    refine WC.seq ?_
    refine WC.region ?_
    replace M53 := M53.openS
    refine WL.ac rfl rfl rfl (Ac.alloc M53 (l := bytesV (List.replicate 32 0)) (by kernel_rfl)) ?_; rintro v54 w54 ⟨g6, rfl, hg54, K54, M54⟩
    refine WL.nil ?_
    refine WX.next (?_)
    refine WC.seq ?_
    refine WC.seq ?_
    refine WC.region ?_
    refine WL.ex rfl rfl rfl (Ex.mv rfl) ?_
    refine WL.nil ?_
    refine WX.next (?_)
    refine WC.block ?_
    refine WC.loop (σ := Nat) (fun i => [(2, .pointer (some ⟨g1, 0, none⟩)), (3, .pointer (some ⟨ge, 0, none⟩)), (6, .pointer (some ⟨g6, 0, none⟩)), (53, .int .i64 (i : Int))]) (fun i wr => i ≤ 32 ∧ Mem w wr nof [blk g6 (bytesV (fillTo 32 i (fun i => UInt8.ofNat ((stW (l ++ tail l.length)).getD (i / 4) 0 / 2 ^ (24 - 8 * (i % 4)))) 0)) 31, blk ge (stC (stW (l ++ tail l.length)) v6 (l ++ tail l.length).length) 189, mrw v6 5 (bytesV (stB (l ++ tail l.length))), blk g1 (bytesV (List.replicate 32 0)) 31]) (fun i => 32 - i) (0) ?_ (.cons rfl (.cons rfl (.cons rfl (.cons rfl (.nil))))) ?_
    · exact ⟨by decide, by rw [fillTo_zero]; exact M54⟩
    rintro i w56 ⟨hi, M56⟩
    refine WC.seq ?_
    refine WC.region ?_
    refine WL.ex rfl rfl rfl (Ex.lss rfl rfl) ?_
    refine WL.nil ?_
    refine WX.next (?_)
    refine WC.seq ?_
    refine WC.cond_dec rfl (fun hi32 => ?_) (fun hi32 => ?_)
    · have hi32b : i < 32 := by omega
      refine WC.skip ?_
      refine WX.next (?_)
      refine WC.seq ?_
      refine WC.block ?_
      refine WC.seq ?_
      refine WC.region ?_
      refine WL.ex rfl rfl rfl (Ex.mv rfl) ?_
      refine WL.ex rfl rfl rfl (Ex.asg rfl) ?_
      refine WL.nil ?_
      refine WX.next (?_)
      refine WC.region ?_
      refine WL.ex rfl rfl rfl (Ex.mv rfl) ?_
      refine WL.ex rfl rfl rfl (Ex.mv rfl) ?_
      refine WL.ex rfl rfl rfl (Ex.mv rfl) ?_
      refine WL.ex rfl rfl rfl (Ex.quo rfl rfl (by decide) (c := ((i / 4 : Nat) : Int)) (by rw [IntWalk.i64_quo _ _ (by omega)]; omega)) ?_
      refine WL.ex rfl rfl rfl (Ex.nilc rfl) ?_
      refine WL.ex rfl rfl rfl (Ex.fa fl189_0 rfl) ?_
      refine WL.ex rfl rfl rfl (Ex.iaA Tryd.underlying164 sz46 rfl rfl ⟨by omega, by omega⟩) ?_
      refine WL.ex rfl rfl rfl (Ex.load ty46 rfl (M56.cell (i := 1) rfl (u32V_atL (i := i / 4) (by rw [hwt.1]; omega) (by simp only [Int.toNat_natCast, Nat.mul_one, Nat.zero_add])))) ?_
      refine WL.ex rfl rfl rfl (Ex.mv rfl) ?_
      refine WL.ex rfl rfl rfl (Ex.rem rfl rfl (by decide) (c := ((i % 4 : Nat) : Int)) (remN _ 4)) ?_
      refine WL.ex rfl rfl rfl (Ex.mul rfl rfl (c := ((8 * (i % 4) : Nat) : Int)) (by rw [i64w _ (by omega) (by omega)]; omega)) ?_
      refine WL.ex rfl rfl rfl (Ex.sub rfl rfl (c := ((24 - 8 * (i % 4) : Nat) : Int)) (by rw [i64w _ (by omega) (by omega)]; omega)) ?_
      refine WL.ex rfl rfl rfl (Ex.shr rfl rfl (m := 24 - 8 * (i % 4)) rfl (shr32 _ _ (by omega))) ?_
      refine WL.ex rfl rfl rfl (Ex.cvI Tryd.underlying46 Tryd.underlying5 rfl (u8b _)) ?_
      refine WL.ex rfl rfl rfl (Ex.iaA Tryd.underlying31 sz5 rfl rfl ⟨by omega, by omega⟩) ?_
      refine WL.ac0 rfl rfl (Ac.st M56 ty5 rfl rfl rfl (i := 0) rfl (by simp [fillTo]; omega)) ?_; rintro v75 w75 ⟨K75, M75⟩
      try dsimp only [List.set] at M75
      simp only [Int.toNat_natCast, Nat.mul_one, Nat.zero_add] at M75
      rw [bytesV_set, fillTo_set 32 i (fun i => UInt8.ofNat ((stW (l ++ tail l.length)).getD (i / 4) 0 / 2 ^ (24 - 8 * (i % 4))))] at M75
      refine WL.nil ?_
      refine WX.normal_block (WX.next (?_))
      refine WC.region ?_
      refine WL.ex rfl rfl rfl (Ex.add rfl rfl (i64w _ (by omega) (by omega))) ?_
      refine WL.ex rfl rfl rfl (Ex.mv rfl) ?_
      refine WL.nil ?_
      refine WX.again (i + 1) ?_ ?_ (.cons rfl (.cons rfl (.cons rfl (.cons rfl (.nil)))))
      · (try dsimp only); omega
      · exact ⟨by omega, M75⟩
    · obtain rfl : i = 32 := by omega
      rw [fillTo_full 32 32 (Nat.le_refl _)] at M56
      have hsha : (List.range 32).map (fun i => UInt8.ofNat ((stW (l ++ tail l.length)).getD (i / 4) 0 / 2 ^ (24 - 8 * (i % 4)))) = sha l := rfl
      rw [hsha] at M56
      have hs32 : H32 (sha l) := sha_length l
      refine WC.exit ?_
      refine WX.exit_then (WX.exit_then (WX.exit_block (WX.next (?_))))
      refine WC.seq ?_
      refine WC.region ?_
      refine WL.ex rfl rfl rfl (Ex.loadA ty31 rfl (h32_len hs32) (M56.rdw (i := 0) rfl)) ?_
      refine WL.ac0 rfl rfl (Ac.stA M56 ty31 rfl rfl rfl (h32_len hs32) (bytesV_one _) (i := 3) rfl (by rw [h32_len hs32, h32_len h32_0]; decide)) ?_; rintro v79 w79 ⟨K79, M79⟩
      try dsimp only [List.set] at M79
      rw [splice_all _ _ (by rw [h32_len hs32, h32_len h32_0])] at M79
      refine WL.nil ?_
      refine WX.next (?_)
      refine WC.ret ?_
      refine WX.retc rfl rfl (run_loadVarA ty31 (by exact h32_len hs32) (M79.rdw (i := 3) rfl)) ?_
      exact ⟨rfl, M79.keep⟩

/- sponsion/digest.Sum -/
theorem dsum_ok (w : World) (A : Option Addr) (c : Nat) (ps : List SV) (hr : RdP w A ps) (hT : Tabs w) (hb : (flatP ps).length ≤ 1000000000000) (hps : ps.length ≤ 1099511627776) :
    Gives Tryd.prog 100 #[.slice A ps.length c] w fun u w1 => u = .agg (bytesV (sha (flatP ps))).toArray ∧ Keep nof w w1 := by
  have M0 := Mem.start w nof
  have hs32 : H32 (sha (flatP ps)) := sha_length _
  refine Gives.enter (n := 7) Tryd.func100 rfl Tryd.ntmps100 rfl (env := [(0, .slice A ps.length c)]) rfl ?_
  refine WC.seq ?_
  refine WC.region ?_
  refine WL.ac rfl rfl rfl (Ac.alloc M0 (l := bytesV (List.replicate 32 0)) (by kernel_rfl)) ?_; rintro v1 w1 ⟨g1, rfl, hg1, K1, M1⟩
  refine WL.nil ?_
  refine WX.next (?_)
  refine WC.seq ?_
  refine WC.region ?_
  refine WL.ac rfl rfl rfl (Ac.call rfl Tryd.func113 nm113 rfl (dnew_ok w1 (hT.keep M1.keep))) ?_; rintro v2 w2 ⟨gs, vs, rfl, N2⟩
  have M2 := M1.new N2
  have hfr : ∀ b ∈ (stR gs vs []).fp, w.heap.size ≤ b := fun b hb => Nat.le_trans M1.keep.size (N2.fresh b hb)
  refine WL.ex rfl rfl rfl (Ex.mv rfl) ?_
  refine WL.ac rfl rfl rfl (Ac.call rfl Tryd.func114 nm114 rfl (sadd_ok w2 gs vs [] A c ps (M2.get (i := 0) rfl) ((RdA.of_old hr hfr).keep M2.keep) (hT.keep M2.keep) (hT.fresh (hfr _ (by simp [sep, blk]))) (by simp; omega) hps (fun b hb => hT.fresh (hfr b hb)))) ?_; rintro v4 w4 ⟨rfl, v6, T4⟩
  rw [List.nil_append] at T4
  have M4 := M2.turned (i := 0) rfl T4
  try dsimp only [List.set] at M4
  refine WL.ac rfl rfl rfl (Ac.call rfl Tryd.func115 nm115 rfl (ssum_ok w4 _ _ _ (M4.get (i := 0) rfl) (hT.keep M4.keep) hb)) ?_; rintro v5 w5 ⟨rfl, K5⟩
  have M5 := M4.step K5
  refine WL.ac0 rfl rfl (Ac.stA M5 ty31 rfl rfl rfl (h32_len hs32) (bytesV_one _) (i := 1) rfl (by rw [h32_len hs32, h32_len h32_0]; decide)) ?_; rintro v6 w6 ⟨K6, M6⟩
  try dsimp only [List.set] at M6
  rw [splice_all _ _ (by rw [h32_len hs32, h32_len h32_0])] at M6
  refine WL.nil ?_
  refine WX.next (?_)
  refine WC.ret ?_
  refine WX.retc rfl rfl (run_loadVarA ty31 (by exact h32_len hs32) (M6.rdw (i := 1) rfl)) ?_
  exact ⟨rfl, M6.keep⟩

end Go.Proofs.YtchmjpdkonfifaaDoor
