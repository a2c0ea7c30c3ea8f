/- Walks, written by gen.py off the translation's own print: each says what the Go function comes to. -/
import Derived.Test.YtpngjgcbdaogmaaWh
set_option linter.unusedVariables false
set_option linter.unusedSimpArgs false
namespace Go.Proofs.Ytpngjgcbdaogmaa
open Go.Sx Go.RowKit
attribute [local irreducible] Ac Ex WL WC WX WP Gives

/- sponsion/sponsionlaw04.PackBack -/
theorem packBack_walk (w : World) (A : Option Addr) (c : Nat) (its : List Item) (hr : RdI w A its) (hb : its.length ≤ 9223372036854775807) :
    Gives Try.prog 6 #[.slice A its.length c] w fun u w1 => u = .bool true ∧ Keep nof w w1 := by
  have M0 := (Mem.start w nof).free (r := row (.slice none 0 0) 5 1 ([] : List UInt8).length (bytesV [])) (row_nil _ _ _) rfl
  refine Gives.enter (n := 110) Try.func6 rfl Try.ntmps6 rfl (env := [(0, .slice A its.length c)]) rfl ?_
  refine WC.seq ?_
  refine WC.region ?_
  refine WL.ex rfl rfl rfl (Ex.asg rfl) ?_
  refine WL.nil ?_
  refine WX.next (?_)
  refine WC.seq ?_
  refine WC.seq ?_
  refine WC.region ?_
  refine WL.ac rfl rfl rfl (Ac.call rfl Try.func16 nm16 rfl (lives04_ok w)) ?_; rintro v2 w2 ⟨rfl, K2⟩
  have M2 := M0.step K2
  refine WL.ex rfl rfl rfl (Ex.not rfl) ?_
  refine WL.ex rfl rfl rfl (Ex.mv rfl) ?_
  refine WL.yes rfl rfl rfl rfl ?_
  refine WL.ex rfl rfl rfl (Ex.mv rfl) ?_
  refine WL.yes rfl rfl rfl rfl ?_
  refine WL.ac rfl rfl rfl (Ac.call rfl Try.func17 nm17 rfl (few04_ok w2 _ _ _ (hr.keep M2.keep) (by first | (simp; done) | (simp; omega) | omega))) ?_; rintro v6 w6 ⟨rfl, K6⟩
  have M6 := M2.step K6
  by_cases hf : fewI its
  · rw [decide_eq_true hf]
    refine WL.yes rfl rfl rfl rfl ?_
    refine WL.ex rfl rfl rfl (Ex.not rfl) ?_
    refine WL.ex rfl rfl rfl (Ex.pickF rfl rfl) ?_
    refine WL.nil ?_
    refine WX.next (?_)
    refine WC.no rfl ?_
    refine WC.skip ?_
    refine WX.next (?_)
    refine WC.seq ?_
    refine WC.region ?_
    refine WL.ex rfl rfl rfl (Ex.bld bd32 (parts := []) rfl rfl rfl rfl) ?_
    refine WL.ac rfl rfl rfl (Ac.box M6 rfl rfl) ?_; rintro v10 w10 ⟨g, rfl, hg10, K10, M10⟩
    have M10 := M10.close1 (fun v => [v])
    refine WL.ex rfl rfl rfl (Ex.asg rfl) ?_
    refine WL.nil ?_
    refine WX.next (?_)
    refine WC.seq ?_
    refine WC.seq ?_
    refine WC.region ?_
    refine WL.ex rfl rfl rfl (Ex.mv rfl) ?_
    refine WL.ex rfl rfl rfl (Ex.len Try.underlying28 rfl) ?_
    refine WL.ex rfl rfl rfl (Ex.mv rfl) ?_
    refine WL.nil ?_
    refine WX.next (?_)
    refine WC.block ?_
    refine WC.loop (σ := Nat) (fun i => [(19, .slice A its.length c), (20, .int .i64 (its.length : Int)), (21, .int .i64 (i : Int)), (0, .slice A its.length c), (3, .pointer (some ⟨g, 0, none⟩))]) (fun i wr => i ≤ its.length ∧ ∃ v L, L = (its.take i).flatMap backB ∧ Mem w wr nof [wrR g v L]) (fun i => its.length - i) (0) ?_ (.cons rfl (.cons rfl (.cons rfl (.cons rfl (.cons rfl (.nil)))))) ?_
    · exact ⟨by omega, _, _, rfl, M10⟩
    rintro i w15 ⟨hi, v, L, hL, M15⟩
    refine WC.seq ?_
    refine WC.region ?_
    refine WL.ex rfl rfl rfl (Ex.lss rfl rfl) ?_
    refine WL.nil ?_
    refine WX.next (?_)
    refine WC.seq ?_
    refine WC.cond_dec rfl (fun hc22 => ?_) (fun hc22 => ?_)
    · obtain ⟨p, hpi⟩ : ∃ p, its[i]? = some p := ⟨_, List.getElem?_eq_getElem (by omega)⟩
      have hpm : p ∈ its := List.mem_of_getElem? hpi
      have hpo := hr.ok p hpm
      have hok := hpo.k
      have hox := hpo.x
      have hoa := hpo.a
      have hoh := hpo.h
      obtain ⟨b0, o0, hA⟩ := hr.plain hpi
      subst hA
      have hbl : L.length ≤ 177 * i := by rw [hL]; exact back_take_len hr.ok hf i
      have hb1 := hf.1 p hpm
      have hf2 := hf.2
      refine WC.skip ?_
      refine WX.next (?_)
      refine WC.seq ?_
      refine WC.block ?_
      refine WC.seq ?_
      refine WC.region ?_
      refine WL.ex rfl rfl rfl (Ex.ia Try.underlying28 sz39 rfl rfl ⟨by omega, by omega⟩) ?_
      refine WL.ex rfl rfl rfl (Ex.loadA ty39 rfl (l := itemC p) (item_len hpo) (Rd.flat (hr.keep M15.keep).row (i := (i : Int).toNat) (fun t ht => item_len (hr.ok t ht)) (by simpa using hpi))) ?_
      refine WL.ac rfl rfl rfl (Ac.alloc M15 al39) ?_; rintro v19 w19 ⟨g19, rfl, hg19, K19, M19⟩
      refine WL.ac0 rfl rfl (Ac.stA M19 ty39 rfl rfl (vs := itemC p) rfl (item_len hpo) item_one (i := 0) rfl (by simp [item_len hpo])) ?_; rintro v20 w20 ⟨K20, M20⟩
      try dsimp only [List.set] at M20
      rw [splice_all _ _ (by simp [item_len hpo])] at M20
      refine WL.nil ?_
      refine WX.next (?_)
      have hne : g19 ∉ (wrR g v L).fp := M20.apart (i := 0) (j := 1) rfl rfl (by decide) _ (by simp [blk])
      refine WC.draw (Keep (· ∈ (wrR g v L).fp) w20.drew) [] [(0, 0), (1, 0), (4, 0), (8, 0), (11, 0), (14, 0), (17, 0), (2, 1), (5, 1), (6, 0), (9, 1), (12, 1), (15, 1), (18, 1), (3, 2), (7, 2), (10, 2), (13, 2), (16, 2), (19, 2)] mixed (by kernel_rfl) rfl (by kernel_rfl) (HQ.block (HQ.then_ (HQ.then_ (HQ.block (HQ.then_ HQ.body))))) ?_
      obtain ⟨w21, hw21⟩ : ∃ v, v = w20.drew := ⟨_, rfl⟩
      have D21 : Keep nof w20 w21 := by rw [hw21]; exact Keep.drew _ _
      have M21 := M20.step D21
      rw [← hw21]; clear hw21
      refine WP.p rfl rfl rfl rfl (fun _ => Ex.mv rfl) ?_
      refine WP.p rfl rfl rfl rfl (fun _ => Ex.fa fl39_0 rfl) ?_
      refine WP.p rfl rfl rfl rfl (fun _ => Ex.fa fl39_1 rfl) ?_
      refine WP.p rfl rfl rfl rfl (fun _ => Ex.fa fl39_1 rfl) ?_
      refine WP.p rfl rfl rfl rfl (fun _ => Ex.fa fl39_2 rfl) ?_
      refine WP.p rfl rfl rfl rfl (fun _ => Ex.fa fl39_3 rfl) ?_
      refine WP.p rfl rfl rfl rfl (fun _ => Ex.fa fl39_4 rfl) ?_
      refine WP.q (Keep.refl _ _) rfl rfl rfl rfl (fun w' hS => Ex.load ty5 rfl (hS.cell (M21.cell (i := 0) (v := .int .u8 (p.k : Int)) rfl rfl) hne)) ?_
      refine WP.q (Keep.refl _ _) rfl rfl rfl rfl (fun w' hS => Ex.load ty33 rfl (hS.cell (M21.cell (i := 0) (v := .int .u64 (p.x : Int)) rfl rfl) hne)) ?_
      refine WP.p rfl rfl rfl rfl (fun _ => Ex.cvI Try.underlying33 Try.underlying43 rfl (u32w _)) ?_
      refine WP.q (Keep.refl _ _) rfl rfl rfl rfl (fun w' hS => Ex.load ty33 rfl (hS.cell (M21.cell (i := 0) (v := .int .u64 (p.x : Int)) rfl rfl) hne)) ?_
      refine WP.q (Keep.refl _ _) rfl rfl rfl rfl (fun w' hS => Ex.loadA ty35 rfl (l := intV p.a) (by simpa using hoa.1) ((M21.rdt (i := 0) rfl (item_2 hpo)).keep hS (fun a ha => by cases ha; exact hne))) ?_
      refine WP.q (Keep.refl _ _) rfl rfl rfl rfl (fun w' hS => Ex.loadA ty37 rfl (l := bytesV p.h) (by simpa using hoh) ((M21.rdt (i := 0) rfl (item_6 hpo)).keep hS (fun a ha => by cases ha; exact hne))) ?_
      refine WP.q (Keep.refl _ _) rfl rfl rfl rfl (fun w' hS => Ex.load ty25 rfl (hS.cell (M21.cell (i := 0) rfl (item_38 hpo)) hne)) ?_
      refine WP.a rfl rfl rfl rfl (Ac.call rfl Try.func18 nm18 rfl (wU8_ok w21 _ _ _ _ (M21.get (i := 1) rfl) (by first | omega | decide) (by first | (simp; done) | (simp; omega) | omega))) ?_; rintro v36 w36 ⟨rfl, v36, T36⟩; refine .inr ⟨fun _ => T36.keep, ?_⟩
      have M36 := M21.turned (i := 1) rfl T36
      try dsimp only [List.set] at M36
      refine WP.a rfl rfl rfl rfl (Ac.call rfl Try.func20 nm20 rfl (wU32_ok w36 _ _ _ _ (M36.get (i := 1) rfl) (by first | omega | decide) (by first | (simp; done) | (simp; omega) | omega))) ?_; rintro v37 w37 ⟨rfl, v37, T37⟩; refine .inr ⟨fun _ => (T36.trans T37).keep, ?_⟩
      have M37 := M36.turned (i := 1) rfl T37
      try dsimp only [List.set] at M37
      refine WP.a rfl rfl rfl rfl (Ac.call rfl Try.func21 nm21 rfl (wU64_ok w37 _ _ _ _ (M37.get (i := 1) rfl) (by first | omega | decide) (by first | (simp; done) | (simp; omega) | omega))) ?_; rintro v38 w38 ⟨rfl, v38, T38⟩; refine .inr ⟨fun _ => ((T36.trans T37).trans T38).keep, ?_⟩
      have M38 := M37.turned (i := 1) rfl T38
      try dsimp only [List.set] at M38
      refine WP.a rfl rfl rfl rfl (Ac.call rfl Try.func22 nm22 rfl (wInt_ok w38 _ _ _ _ (M38.get (i := 1) rfl) ‹_› (by first | (simp; done) | (simp; omega) | omega))) ?_; rintro v39 w39 ⟨rfl, v39, T39⟩; refine .inr ⟨fun _ => (((T36.trans T37).trans T38).trans T39).keep, ?_⟩
      have M39 := M38.turned (i := 1) rfl T39
      try dsimp only [List.set] at M39
      refine WP.a rfl rfl rfl rfl (Ac.call rfl Try.func24 nm24 rfl (wHash_ok w39 _ _ _ _ (M39.get (i := 1) rfl) ‹_› (by first | (simp; done) | (simp; omega) | omega))) ?_; rintro v40 w40 ⟨rfl, v40, T40⟩; refine .inr ⟨fun _ => ((((T36.trans T37).trans T38).trans T39).trans T40).keep, ?_⟩
      have M40 := M39.turned (i := 1) rfl T40
      try dsimp only [List.set] at M40
      refine WP.a rfl rfl rfl rfl (Ac.call rfl Try.func25 nm25 rfl (wRaw_ok w40 _ _ _ _ _ _ (M40.get (i := 1) rfl) (M40.rd (hr.rd p hpm)) (by first | (simp; done) | (simp; omega) | omega) (by first | (simp; done) | (simp; omega) | omega))) ?_; rintro v41 w41 ⟨rfl, v41, T41⟩; refine .inr ⟨fun _ => (((((T36.trans T37).trans T38).trans T39).trans T40).trans T41).keep, ?_⟩
      have M41 := M40.turned (i := 1) rfl T41
      try dsimp only [List.set] at M41
      refine WP.nil ?_
      refine WX.normal_block (WX.next (?_))
      refine WC.region ?_
      refine WL.ex rfl rfl rfl (Ex.add rfl rfl (i64w _ (by omega) (by omega))) ?_
      refine WL.ex rfl rfl rfl (Ex.mv rfl) ?_
      refine WL.nil ?_
      refine WX.again (i + 1) ?_ ?_ (.cons rfl (.cons rfl (.cons rfl (.cons rfl (.cons rfl (.nil))))))
      · (try dsimp only); omega
      · refine ⟨by omega, v41, L ++ backB p, by rw [back_snoc hpi, ← hL], ?_⟩
        have Me := M41.drop1
        simpa only [backB, List.append_assoc] using Me
    · have hbl : L.length ≤ 177 * i := by rw [hL]; exact back_take_len hr.ok hf i
      obtain rfl : i = its.length := by omega
      rw [List.take_of_length_le (Nat.le_refl _)] at hL
      have hf2 := hf.2
      refine WC.exit ?_
      refine WX.exit_then (WX.exit_then (WX.exit_block (WX.next (?_))))
      refine WC.seq ?_
      refine WC.region ?_
      refine WL.ex rfl rfl rfl (Ex.mv rfl) ?_
      refine WL.ac rfl rfl rfl (Ac.call rfl Try.func26 nm26 rfl (wBytes_ok w15 _ _ _ (M15.get (i := 0) rfl) (by first | (simp; done) | (simp; omega) | omega))) ?_; rintro v45 w45 N45
      have M45 := M15.new N45
      obtain ⟨A45, c45, rfl⟩ := own_slice (M45.get (i := 0) rfl)
      refine WL.ac rfl rfl rfl (Ac.call rfl Try.func27 nm27 rfl (of_ok w45 _ _ _ (M45.rdr (i := 0) rfl) (by omega))) ?_; rintro v46 w46 ⟨gr, D, rfl, N46⟩
      have M46 := M45.new N46
      refine WL.ex rfl rfl rfl (Ex.asg rfl) ?_
      refine WL.nil ?_
      refine WX.next (?_)
      refine WC.seq ?_
      refine WC.seq ?_
      refine WC.region ?_
      refine WL.ex rfl rfl rfl (Ex.mv rfl) ?_
      refine WL.ex rfl rfl rfl (Ex.len Try.underlying28 rfl) ?_
      refine WL.ex rfl rfl rfl (Ex.mv rfl) ?_
      refine WL.nil ?_
      refine WX.next (?_)
      refine WC.block ?_
      refine WC.loop (σ := Nat) (fun i => [(49, .slice A its.length c), (50, .int .i64 (its.length : Int)), (51, .int .i64 (i : Int)), (0, .slice A its.length c), (6, .pointer (some ⟨gr, 0, none⟩))]) (fun i wr => i ≤ its.length ∧ ∃ L, L = (its.drop i).flatMap backB ∧ Mem w wr nof [rdR gr D (L, 0)]) (fun i => its.length - i) (0) ?_ (.cons rfl (.cons rfl (.cons rfl (.cons rfl (.cons rfl (.nil)))))) ?_
      · exact ⟨by omega, _, by rw [hL, List.drop_zero], Mem.sub M46 (.cons_cons _ (List.nil_sublist _))⟩
      rintro i w51 ⟨hi, L, hL, M51⟩
      refine WC.seq ?_
      refine WC.region ?_
      refine WL.ex rfl rfl rfl (Ex.lss rfl rfl) ?_
      refine WL.nil ?_
      refine WX.next (?_)
      refine WC.seq ?_
      refine WC.cond_dec rfl (fun hc52 => ?_) (fun hc52 => ?_)
      · obtain ⟨p, hpi⟩ : ∃ p, its[i]? = some p := ⟨_, List.getElem?_eq_getElem (by omega)⟩
        have hpm : p ∈ its := List.mem_of_getElem? hpi
        have hpo := hr.ok p hpm
        have hok := hpo.k
        have hox := hpo.x
        have hoa := hpo.a
        have hoh := hpo.h
        obtain ⟨b0, o0, hA⟩ := hr.plain hpi
        subst hA
        have hb1 := hf.1 p hpm
        obtain ⟨L1, hL1⟩ : ∃ L1, L1 = (its.drop (i + 1)).flatMap backB := ⟨_, rfl⟩
        have hb2 : L1.length ≤ 177 * its.length := by rw [hL1]; exact back_drop_len hr.ok hf _
        have hf2 := hf.2
        obtain rfl : L = (be 1 p.k ++ (be 4 (p.x % 4294967296) ++ (be 8 p.x ++ (intB p.a ++ (p.h ++ (p.B.l ++ L1)))))) := by rw [hL, back_cons hpi, ← hL1]; simp only [backB, List.append_assoc]
        refine WC.skip ?_
        refine WX.next (?_)
        refine WC.seq ?_
        refine WC.block ?_
        refine WC.seq ?_
        refine WC.region ?_
        refine WL.ex rfl rfl rfl (Ex.ia Try.underlying28 sz39 rfl rfl ⟨by omega, by omega⟩) ?_
        refine WL.ex rfl rfl rfl (Ex.loadA ty39 rfl (l := itemC p) (item_len hpo) (Rd.flat (hr.keep M51.keep).row (i := (i : Int).toNat) (fun t ht => item_len (hr.ok t ht)) (by simpa using hpi))) ?_
        refine WL.ac rfl rfl rfl (Ac.alloc M51 al39) ?_; rintro v55 w55 ⟨g55, rfl, hg55, K55, M55⟩
        refine WL.ac0 rfl rfl (Ac.stA M55 ty39 rfl rfl (vs := itemC p) rfl (item_len hpo) item_one (i := 0) rfl (by simp [item_len hpo])) ?_; rintro v56 w56 ⟨K56, M56⟩
        try dsimp only [List.set] at M56
        rw [splice_all _ _ (by simp [item_len hpo])] at M56
        refine WL.nil ?_
        refine WX.next (?_)
        refine WC.seq ?_
        have hne : g55 ∉ (rdR gr D ((be 1 p.k ++ (be 4 (p.x % 4294967296) ++ (be 8 p.x ++ (intB p.a ++ (p.h ++ (p.B.l ++ L1)))))), 0)).fp := M56.apart (i := 0) (j := 1) rfl rfl (by decide) _ (by simp [blk])
        refine WC.draw (Keep (· ∈ (rdR gr D ((be 1 p.k ++ (be 4 (p.x % 4294967296) ++ (be 8 p.x ++ (intB p.a ++ (p.h ++ (p.B.l ++ L1)))))), 0)).fp) w56.drew) [] [(0, 0), (2, 0), (3, 1), (1, 2), (4, 0), (5, 0), (6, 0), (8, 0), (9, 1), (10, 0), (7, 2), (11, 0), (12, 0), (13, 0), (14, 0), (16, 0), (17, 1), (15, 2), (18, 0), (19, 0), (20, 0), (21, 0), (23, 0), (24, 1), (22, 2), (25, 0), (26, 0), (27, 0), (28, 0), (30, 0), (31, 1), (29, 2), (32, 0), (33, 0), (34, 0), (35, 0), (36, 0), (41, 0), (37, 1), (38, 0), (42, 1), (43, 1), (39, 2), (40, 2), (44, 0), (45, 0)] mixed (by kernel_rfl) rfl (by kernel_rfl) (HQ.then_ (HQ.block (HQ.then_ (HQ.then_ (HQ.block (HQ.then_ HQ.body)))))) ?_
        obtain ⟨w57, hw57⟩ : ∃ v, v = w56.drew := ⟨_, rfl⟩
        have D57 : Keep nof w56 w57 := by rw [hw57]; exact Keep.drew _ _
        have M57 := M56.step D57
        rw [← hw57]; clear hw57
        refine WP.p rfl rfl rfl rfl (fun _ => Ex.mv rfl) ?_
        refine WP.p rfl rfl rfl rfl (fun _ => Ex.fa fl39_0 rfl) ?_
        refine WP.q (Keep.refl _ _) rfl rfl rfl rfl (fun w' hS => Ex.load ty5 rfl (hS.cell (M57.cell (i := 0) (v := .int .u8 (p.k : Int)) rfl rfl) hne)) ?_
        refine WP.a rfl rfl rfl rfl (Ac.call rfl Try.func29 nm29 rfl (rU8_ok w57 _ _ _ _ (M57.get (i := 1) rfl))) ?_; rintro v61 w61 ⟨rfl, T61⟩; refine .inr ⟨fun _ => T61.keep, ?_⟩
        rw [rTake_app2 (be_length 1 _)] at T61
        rw [rTake_app1 (be_length 1 _), beVal_be' (by omega)]
        have M61 := M57.turned (i := 1) rfl T61
        try dsimp only [List.set] at M61
        refine WP.p rfl rfl rfl rfl (fun _ => Ex.neI rfl rfl) ?_
        rw [decide_eq_true rfl]
        refine WP.p rfl rfl rfl rfl (fun _ => Ex.mv rfl) ?_
        refine WP.py rfl rfl rfl rfl rfl rfl (fun _ => Ex.mv rfl) ?_
        refine WP.py rfl rfl rfl rfl rfl rfl (fun _ => Ex.fa fl39_1 rfl) ?_
        refine WP.qy T61.keep rfl rfl rfl rfl rfl rfl (fun w' hS => Ex.load ty33 rfl (hS.cell (M57.cell (i := 0) (v := .int .u64 (p.x : Int)) rfl rfl) hne)) ?_
        refine WP.py rfl rfl rfl rfl rfl rfl (fun _ => Ex.cvI Try.underlying33 Try.underlying43 rfl (u32w _)) ?_
        refine WP.ay rfl rfl rfl rfl rfl rfl (Ac.call rfl Try.func31 nm31 rfl (rU32_ok w61 _ _ _ _ (M61.get (i := 1) rfl))) ?_; rintro v68 w68 ⟨rfl, T68⟩; refine .inr ⟨fun _ => (T61.trans T68).keep, ?_⟩
        rw [rTake_app2 (be_length 4 _)] at T68
        rw [rTake_app1 (be_length 4 _), beVal_be' (by omega)]
        have M68 := M61.turned (i := 1) rfl T68
        try dsimp only [List.set] at M68
        refine WP.py rfl rfl rfl rfl rfl rfl (fun _ => Ex.neI rfl rfl) ?_
        rw [decide_eq_true rfl]
        refine WP.p rfl rfl rfl rfl (fun _ => Ex.pickF rfl rfl) ?_
        refine WP.p rfl rfl rfl rfl (fun _ => Ex.mv rfl) ?_
        refine WP.py rfl rfl rfl rfl rfl rfl (fun _ => Ex.mv rfl) ?_
        refine WP.py rfl rfl rfl rfl rfl rfl (fun _ => Ex.fa fl39_1 rfl) ?_
        refine WP.qy (T61.trans T68).keep rfl rfl rfl rfl rfl rfl (fun w' hS => Ex.load ty33 rfl (hS.cell (M57.cell (i := 0) (v := .int .u64 (p.x : Int)) rfl rfl) hne)) ?_
        refine WP.ay rfl rfl rfl rfl rfl rfl (Ac.call rfl Try.func32 nm32 rfl (rU64_ok w68 _ _ _ _ (M68.get (i := 1) rfl))) ?_; rintro v75 w75 ⟨rfl, T75⟩; refine .inr ⟨fun _ => ((T61.trans T68).trans T75).keep, ?_⟩
        rw [rTake_app2 (be_length 8 _)] at T75
        rw [rTake_app1 (be_length 8 _), beVal_be' (by omega)]
        have M75 := M68.turned (i := 1) rfl T75
        try dsimp only [List.set] at M75
        refine WP.py rfl rfl rfl rfl rfl rfl (fun _ => Ex.neI rfl rfl) ?_
        rw [decide_eq_true rfl]
        refine WP.p rfl rfl rfl rfl (fun _ => Ex.pickF rfl rfl) ?_
        refine WP.p rfl rfl rfl rfl (fun _ => Ex.mv rfl) ?_
        refine WP.py rfl rfl rfl rfl rfl rfl (fun _ => Ex.mv rfl) ?_
        refine WP.py rfl rfl rfl rfl rfl rfl (fun _ => Ex.fa fl39_2 rfl) ?_
        refine WP.qy ((T61.trans T68).trans T75).keep rfl rfl rfl rfl rfl rfl (fun w' hS => Ex.loadA ty35 rfl (l := intV p.a) (by simpa using hoa.1) ((M57.rdt (i := 0) rfl (item_2 hpo)).keep hS (fun a ha => by cases ha; exact hne))) ?_
        refine WP.ay rfl rfl rfl rfl rfl rfl (Ac.call rfl Try.func33 nm33 rfl (rInt_ok w75 _ _ _ _ (M75.get (i := 1) rfl))) ?_; rintro v82 w82 ⟨rfl, T82⟩; refine .inr ⟨fun _ => (((T61.trans T68).trans T75).trans T82).keep, ?_⟩
        rw [rTake_app2 (intB_length _)] at T82
        rw [rTake_app1 (intB_length _), show rInt (intB p.a) = p.a by rw [rInt, if_pos (intB_length _), ofB_intB hoa]]
        have M82 := M75.turned (i := 1) rfl T82
        try dsimp only [List.set] at M82
        refine WP.py rfl rfl rfl rfl rfl rfl (fun _ => Ex.neA rfl rfl (eqInt w hoa hoa)) ?_
        rw [decide_eq_true rfl]
        refine WP.p rfl rfl rfl rfl (fun _ => Ex.pickF rfl rfl) ?_
        refine WP.p rfl rfl rfl rfl (fun _ => Ex.mv rfl) ?_
        refine WP.py rfl rfl rfl rfl rfl rfl (fun _ => Ex.mv rfl) ?_
        refine WP.py rfl rfl rfl rfl rfl rfl (fun _ => Ex.fa fl39_3 rfl) ?_
        refine WP.qy (((T61.trans T68).trans T75).trans T82).keep rfl rfl rfl rfl rfl rfl (fun w' hS => Ex.loadA ty37 rfl (l := bytesV p.h) (by simpa using hoh) ((M57.rdt (i := 0) rfl (item_6 hpo)).keep hS (fun a ha => by cases ha; exact hne))) ?_
        refine WP.ay rfl rfl rfl rfl rfl rfl (Ac.call rfl Try.func35 nm35 rfl (rHash_ok w82 _ _ _ _ (M82.get (i := 1) rfl))) ?_; rintro v89 w89 ⟨rfl, T89⟩; refine .inr ⟨fun _ => ((((T61.trans T68).trans T75).trans T82).trans T89).keep, ?_⟩
        rw [rTake_app2 (hoh)] at T89
        rw [rTake_app1 (hoh), show hash32 p.h = p.h by simp [hash32, hoh]]
        have M89 := M82.turned (i := 1) rfl T89
        try dsimp only [List.set] at M89
        refine WP.py rfl rfl rfl rfl rfl rfl (fun _ => Ex.neA rfl rfl (eqHash w hoh hoh)) ?_
        rw [decide_eq_true rfl]
        refine WP.p rfl rfl rfl rfl (fun _ => Ex.pickF rfl rfl) ?_
        refine WP.p rfl rfl rfl rfl (fun _ => Ex.mv rfl) ?_
        refine WP.py rfl rfl rfl rfl rfl rfl (fun _ => Ex.mv rfl) ?_
        refine WP.py rfl rfl rfl rfl rfl rfl (fun _ => Ex.fa fl39_4 rfl) ?_
        refine WP.py rfl rfl rfl rfl rfl rfl (fun _ => Ex.fa fl39_4 rfl) ?_
        refine WP.qy ((((T61.trans T68).trans T75).trans T82).trans T89).keep rfl rfl rfl rfl rfl rfl (fun w' hS => Ex.load ty25 rfl (hS.cell (M57.cell (i := 0) rfl (item_38 hpo)) hne)) ?_
        refine WP.py rfl rfl rfl rfl rfl rfl (fun _ => Ex.len Try.underlying25 rfl) ?_
        refine WP.qy ((((T61.trans T68).trans T75).trans T82).trans T89).keep rfl rfl rfl rfl rfl rfl (fun w' hS => Ex.load ty25 rfl (hS.cell (M57.cell (i := 0) rfl (item_38 hpo)) hne)) ?_
        refine WP.qy ((((T61.trans T68).trans T75).trans T82).trans T89).keep rfl rfl rfl rfl rfl rfl (fun w' hS => Ex.cvBS Try.underlying25 Try.underlying5 Try.underlying9 rfl (M57.old (i := 1) rfl (hr.rd p hpm) hS)) ?_
        refine WP.ay rfl rfl rfl rfl rfl rfl (Ac.call rfl Try.func36 nm36 rfl (rRaw_ok w89 _ _ _ _ _ (by simp; omega) (M89.get (i := 1) rfl))) ?_; rintro v100 w100 ⟨w100a, T100, N100⟩; refine .inr ⟨fun _ => (((((T61.trans T68).trans T75).trans T82).trans T89).trans T100).keep.trans N100.keep.any, ?_⟩
        rw [Int.toNat_natCast] at T100 N100
        rw [rTake_app2 rfl] at T100
        rw [rTake_app1 rfl] at N100
        have M100 := (M89.turned (i := 1) rfl T100).new N100
        try dsimp only [List.set] at M100
        obtain ⟨A100, c100, rfl⟩ := own_slice (M100.get (i := 0) rfl)
        refine WP.ay rfl rfl rfl rfl rfl rfl (Ex.ac (Ex.cvBS Try.underlying25 Try.underlying5 Try.underlying9 rfl (M100.rdr (i := 0) rfl))) ?_; rintro _ _ ⟨rfl, rfl⟩; refine .inr ⟨id, ?_⟩
        refine WP.py rfl rfl rfl rfl rfl rfl (fun _ => Ex.neS rfl rfl) ?_
        rw [decide_eq_true rfl]
        refine WP.p rfl rfl rfl rfl (fun _ => Ex.pickF rfl rfl) ?_
        refine WP.nil ?_
        refine WX.next (?_)
        refine WC.no rfl ?_
        refine WC.skip ?_
        refine WX.normal_block (WX.next (?_))
        refine WC.region ?_
        refine WL.ex rfl rfl rfl (Ex.add rfl rfl (i64w _ (by omega) (by omega))) ?_
        refine WL.ex rfl rfl rfl (Ex.mv rfl) ?_
        refine WL.nil ?_
        refine WX.again (i + 1) ?_ ?_ (.cons rfl (.cons rfl (.cons rfl (.cons rfl (.cons rfl (.nil))))))
        · (try dsimp only); omega
        · exact ⟨by omega, L1, hL1, M100.sub (.cons _ (.cons _ (.cons_cons _ (List.nil_sublist _))))⟩
      · obtain rfl : i = its.length := by omega
        obtain rfl : L = [] := by rw [hL, List.drop_length]; rfl
        refine WC.exit ?_
        refine WX.exit_then (WX.exit_then (WX.exit_block (WX.next (?_))))
        refine WC.seq ?_
        refine WC.region ?_
        refine WL.ex rfl rfl rfl (Ex.mv rfl) ?_
        refine WL.ac rfl rfl rfl (Ac.call rfl Try.func40 nm40 rfl (rEnd_ok w51 _ _ _ _ (M51.get (i := 0) rfl))) ?_; rintro v107 w107 ⟨rfl, rfl⟩
        refine WL.ex rfl rfl rfl (Ex.eqI rfl rfl) ?_
        rw [if_neg (fun h => h.2 rfl), decide_eq_true rfl]
        refine WL.ex rfl rfl rfl (Ex.mv rfl) ?_
        refine WL.yes rfl rfl rfl rfl ?_
        refine WL.ex rfl rfl rfl (Ex.mv rfl) ?_
        refine WL.yes rfl rfl rfl rfl ?_
        refine WL.ac rfl rfl rfl (Ac.call rfl Try.func38 nm38 rfl (rLeft_ok w107 _ _ _ _ (M51.get (i := 0) rfl))) ?_; rintro v111 w111 ⟨rfl, rfl⟩
        refine WL.yes rfl rfl rfl rfl ?_
        refine WL.ex rfl rfl rfl (Ex.eqI rfl rfl) ?_
        refine WL.ex rfl rfl rfl (Ex.pickT rfl rfl) ?_
        refine WL.ex rfl rfl rfl (Ex.asg rfl) ?_
        refine WL.nil ?_
        refine WX.next (?_)
        refine WC.ret ?_
        refine WX.ret1 rfl rfl ?_
        exact ⟨rfl, M51.keep⟩
  · rw [decide_eq_false hf]
    refine WL.yes rfl rfl rfl rfl ?_
    refine WL.ex rfl rfl rfl (Ex.not rfl) ?_
    refine WL.ex rfl rfl rfl (Ex.pickF rfl rfl) ?_
    refine WL.nil ?_
    refine WX.next (?_)
    refine WC.yes rfl ?_
    refine WC.seq ?_
    refine WC.region ?_
    refine WL.ac rfl rfl rfl (Ac.call rfl Try.func16 nm16 rfl (lives04_ok w6)) ?_; rintro v117 w117 ⟨rfl, K117⟩
    have M117 := M6.step K117
    refine WL.ex rfl rfl rfl (Ex.asg rfl) ?_
    refine WL.nil ?_
    refine WX.next (?_)
    refine WC.ret ?_
    refine WX.ret_then (?_)
    refine WX.ret1 rfl rfl ?_
    exact ⟨rfl, M117.keep⟩

end Go.Proofs.Ytpngjgcbdaogmaa
