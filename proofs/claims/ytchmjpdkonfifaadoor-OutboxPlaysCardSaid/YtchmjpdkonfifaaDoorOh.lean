/- Walks, written by gen.py off the translation's own print: each says what the Go function comes to. -/
import Derived.Test.YtchmjpdkonfifaaDoorOe
import Derived.Test.YtchmjpdkonfifaaDoorSc
set_option linter.unusedVariables false
set_option linter.unusedSimpArgs false
namespace Go.Proofs.YtchmjpdkonfifaaDoor
open Go.Sx Go.RowKit
attribute [local irreducible] Ac Ex WL WC WX WP Gives sha

/-- The amounts of a token's intents from one place up to another. -/
def amF (its : List Itt) (tk fr to : Nat) : List (List Nat) := (its.zipIdx.filter fun q => decide (q.1.tk = tk) && (decide (fr ≤ q.2) && decide (q.2 < to))).map (·.1.am)
theorem amF_snoc {its : List Itt} {i : Nat} {p : Itt} (tk fr to : Nat) (h : its[i]? = some p) : amF (its.take (i + 1)) tk fr to = amF (its.take i) tk fr to ++ (if p.tk = tk ∧ fr ≤ i ∧ i < to then [p.am] else []) := by
  have hi : i < its.length := (List.getElem?_eq_some_iff.1 h).1
  have hl : (its.take i).length = i := by rw [List.length_take]; omega
  rw [take_snoc h]
  unfold amF
  rw [List.zipIdx_append, List.filter_append, List.map_append, hl]
  congr 1
  by_cases c : p.tk = tk ∧ fr ≤ i ∧ i < to
  · rw [if_pos c]
    simp [c.1, c.2.1, c.2.2]
  · rw [if_neg c]
    simp only [List.zipIdx_cons, List.zipIdx_nil, Nat.zero_add, List.map_eq_nil_iff, List.filter_eq_nil_iff, List.mem_singleton]
    rintro q rfl
    simp only [Bool.and_eq_true, decide_eq_true_eq]
    exact c
theorem amF_yes {its : List Itt} {i : Nat} {p : Itt} {tk fr to : Nat} (h : its[i]? = some p) (c : p.tk = tk ∧ fr ≤ i ∧ i < to) : amF (its.take (i + 1)) tk fr to = amF (its.take i) tk fr to ++ [p.am] := by rw [amF_snoc tk fr to h, if_pos c]
theorem amF_no {its : List Itt} {i : Nat} {p : Itt} {tk fr to : Nat} (h : its[i]? = some p) (c : ¬ (p.tk = tk ∧ fr ≤ i ∧ i < to)) : amF (its.take (i + 1)) tk fr to = amF (its.take i) tk fr to := by rw [amF_snoc tk fr to h, if_neg c, List.append_nil]
theorem amF_len (its : List Itt) (tk fr to : Nat) : (amF its tk fr to).length ≤ its.length := by
  unfold amF
  rw [List.length_map]
  have := List.length_filter_le (fun q : Itt × Nat => decide (q.1.tk = tk) && (decide (fr ≤ q.2) && decide (q.2 < to))) its.zipIdx
  rwa [List.length_zipIdx] at this
theorem amF_ok {its : List Itt} {tk fr to : Nat} (h : ∀ t ∈ its, IttOk t) : ∀ a ∈ amF its tk fr to, Int4 a := by
  intro a ha
  obtain ⟨q, hq, rfl⟩ := List.mem_map.1 ha
  have h1 := (List.mem_filter.1 hq).1
  exact (h q.1 (List.fst_mem_of_mem_zipIdx h1)).am

/- (*sponsion/outbox.Outbox).Total -/
theorem oTotal_ok (w : World) (go gt gl ge : Nat) (vs : List Value) (A : Option Addr) (c : Nat) (its : List Itt) (tk fr to : Nat) (hO : OxS w go gt gl ge vs A c its) (hok : ∀ t ∈ its, IttOk t) (hb : its.length ≤ 10000) :
    Gives Tryd.prog 20 #[.pointer (some ⟨go, 0, none⟩), .int .u8 (tk : Int), .int .u64 (fr : Int), .int .u64 (to : Int)] w fun u w1 => u = .tuple #[.agg (intV (sumI (vsum (amF its tk fr to))).1).toArray, .int .i64 (sumI (vsum (amF its tk fr to))).2] ∧ Keep nof w w1 := by
  have M0 := Mem.start w nof
  have hr := hO.rd
  have hao := amF_ok (tk := tk) (fr := fr) (to := to) hok
  have hso := sumI_ok (vsum (amF its tk fr to))
  refine Gives.enter (n := 49) Tryd.func20 rfl Tryd.ntmps20 rfl (env := [(0, .pointer (some ⟨go, 0, none⟩)), (1, .int .u8 (tk : Int)), (2, .int .u64 (fr : Int)), (3, .int .u64 (to : Int))]) rfl ?_
  refine WC.seq ?_
  refine WC.region ?_
  refine WL.ac rfl rfl rfl (Ac.alloc M0 (l := intV [0, 0, 0, 0]) (by kernel_rfl)) ?_; rintro v1 w1 ⟨gr, rfl, hg1, K1, M1⟩
  refine WL.ex rfl rfl rfl (Ex.asg rfl) ?_
  refine WL.nil ?_
  refine WX.next (?_)
  refine WC.seq ?_
  refine WC.region ?_
  refine WL.ex rfl rfl rfl (Ex.asg rfl) ?_
  refine WL.nil ?_
  refine WX.next (?_)
  refine WC.seq ?_
  refine WC.seq ?_
  refine WC.region ?_
  refine WL.ex rfl rfl rfl (Ex.mv rfl) ?_
  refine WL.ex rfl rfl rfl (Ex.nilc rfl) ?_
  refine WL.ex rfl rfl rfl (Ex.fa fl93_0 rfl) ?_
  refine WL.ex rfl rfl rfl (Ex.load ty27 rfl (hO.keep M1.keep).c0) ?_
  refine WL.ex rfl rfl rfl (Ex.len Tryd.underlying27 rfl) ?_
  refine WL.ex rfl rfl rfl (Ex.mv rfl) ?_
  refine WL.nil ?_
  refine WX.next (?_)
  refine WC.block ?_
  refine WC.loop (σ := Nat × Value) (fun s => [(1, .int .u8 (tk : Int)), (2, .int .u64 (fr : Int)), (3, .int .u64 (to : Int)), (8, .pointer (some ⟨gr, 0, none⟩)), (10, s.2), (16, .slice A its.length c), (17, .int .i64 (its.length : Int)), (18, .int .i64 (s.1 : Int))]) (fun s wr => s.1 ≤ its.length ∧ Mem w wr nof [row s.2 48 4 (amF (its.take s.1) tk fr to).length ((amF (its.take s.1) tk fr to).flatMap intV), blk gr (intV [0, 0, 0, 0]) 48]) (fun s => its.length - s.1) (((0, .slice none 0 0) : Nat × Value)) ?_ (.cons rfl (.cons rfl (.cons rfl (.cons rfl (.cons rfl (.cons rfl (.cons rfl (.cons rfl (.nil))))))))) ?_
  · exact ⟨by simp, (M1.free (r := row (.slice none 0 0) 48 4 0 []) (row_nil _ _ _) rfl)⟩
  rintro ⟨i, v⟩ w10 ⟨hi, M10⟩
  dsimp only at hi M10
  refine WC.sub (env' := [(1, .int .u8 (tk : Int)), (2, .int .u64 (fr : Int)), (3, .int .u64 (to : Int)), (8, .pointer (some ⟨gr, 0, none⟩)), (10, v), (16, .slice A its.length c), (17, .int .i64 (its.length : Int)), (18, .int .i64 (i : Int))]) (.cons rfl (.cons rfl (.cons rfl (.cons rfl (.cons rfl (.cons rfl (.cons rfl (.cons rfl (.nil))))))))) ?_
  refine WC.seq ?_
  refine WC.region ?_
  refine WL.ex rfl rfl rfl (Ex.lss rfl rfl) ?_
  refine WL.nil ?_
  refine WX.next (?_)
  refine WC.seq ?_
  refine WC.cond_dec rfl (fun hc19 => ?_) (fun hc19 => ?_)
  · obtain ⟨p, hpi⟩ : ∃ p, its[i]? = some p := ⟨_, List.getElem?_eq_getElem (by omega)⟩
    have hpm := List.mem_of_getElem? hpi
    have hpo := hok p hpm
    obtain ⟨b0, o0, hA⟩ := hr.flat_plain hpm (by rw [itt_len hpo]; omega)
    subst hA
    have hlm : (amF (its.take i) tk fr to).length ≤ i := by have h1 := amF_len (its.take i) tk fr to; rw [List.length_take] at h1; omega
    refine WC.skip ?_
    refine WX.next (?_)
    refine WC.seq ?_
    refine WC.block ?_
    refine WC.seq ?_
    refine WC.region ?_
    refine WL.ex rfl rfl rfl (Ex.mv rfl) ?_
    refine WL.ex rfl rfl rfl (Ex.ia Tryd.underlying27 sz50 rfl rfl ⟨by omega, by omega⟩) ?_
    refine WL.ex rfl rfl rfl (Ex.loadA ty50 rfl (l := ittC p) (itt_len hpo) (Rd.flat (M10.rd hr) (i := (i : Int).toNat) (fun t ht => itt_len (hok t ht)) (by simpa using hpi))) ?_
    refine WL.ac rfl rfl rfl (Ac.alloc M10 (l := ittC itt0) (by kernel_rfl)) ?_; rintro v15 w15 ⟨gx, rfl, hg15, K15, M15⟩
    refine WL.ex rfl rfl rfl (Ex.asg rfl) ?_
    refine WL.ac0 rfl rfl (Ac.stA M15 ty50 rfl rfl rfl (itt_len (by first | assumption | exact itt0_ok)) itt_one (i := 0) rfl (by first | (rw [itt_len (by first | assumption | exact itt0_ok), itt_len (by first | assumption | exact itt0_ok)]; decide) | (rw [itt_len (by first | assumption | exact itt0_ok)]; decide) | rw [itt_len (by first | assumption | exact itt0_ok)])) ?_; rintro v17 w17 ⟨K17, M17⟩
    try dsimp only [List.set] at M17
    rw [splice_all _ _ (by first | rw [itt_len (by first | assumption | exact itt0_ok), itt_len (by first | assumption | exact itt0_ok)] | rw [itt_len (by first | assumption | exact itt0_ok)])] at M17
    refine WL.nil ?_
    refine WX.next (?_)
    refine WC.seq ?_
    refine WC.region ?_
    refine WL.ex rfl rfl rfl (Ex.fa fl50_1 rfl) ?_
    refine WL.ex rfl rfl rfl (Ex.load ty5 rfl (M17.cell (i := 0) rfl (itt_g1 hpo))) ?_
    refine WL.ex rfl rfl rfl (Ex.mv rfl) ?_
    refine WL.ex rfl rfl rfl (Ex.eqI rfl rfl) ?_
    refine WL.ex rfl rfl rfl (Ex.mv rfl) ?_
    by_cases h1 : (p.tk : Int) = (tk : Int)
    · rw [decide_eq_true h1]
      refine WL.yes rfl rfl rfl rfl ?_
      refine WL.ex rfl rfl rfl (Ex.mv rfl) ?_
      refine WL.yes rfl rfl rfl rfl ?_
      refine WL.ex rfl rfl rfl (Ex.cvI Tryd.underlying3 Tryd.underlying23 rfl (u64w_lt _ (by omega))) ?_
      refine WL.yes rfl rfl rfl rfl ?_
      refine WL.ex rfl rfl rfl (Ex.mv rfl) ?_
      refine WL.yes rfl rfl rfl rfl ?_
      refine WL.ex rfl rfl rfl (Ex.geq rfl rfl) ?_
      refine WL.ex rfl rfl rfl (Ex.pickT rfl rfl) ?_
      refine WL.ex rfl rfl rfl (Ex.mv rfl) ?_
      by_cases h2 : (i : Int) ≥ (fr : Int)
      · rw [decide_eq_true h2]
        refine WL.yes rfl rfl rfl rfl ?_
        refine WL.ex rfl rfl rfl (Ex.mv rfl) ?_
        refine WL.yes rfl rfl rfl rfl ?_
        refine WL.ex rfl rfl rfl (Ex.cvI Tryd.underlying3 Tryd.underlying23 rfl (u64w_lt _ (by omega))) ?_
        refine WL.yes rfl rfl rfl rfl ?_
        refine WL.ex rfl rfl rfl (Ex.mv rfl) ?_
        refine WL.yes rfl rfl rfl rfl ?_
        refine WL.ex rfl rfl rfl (Ex.lss rfl rfl) ?_
        refine WL.ex rfl rfl rfl (Ex.pickT rfl rfl) ?_
        refine WL.nil ?_
        refine WX.next (?_)
        refine WC.cond_dec rfl (fun h3 => ?_) (fun h3 => ?_)
        · have hst := amF_yes (tk := tk) (fr := fr) (to := to) hpi ⟨by omega, by omega, by omega⟩
          refine WC.region ?_
          refine WL.ex rfl rfl rfl (Ex.mv rfl) ?_
          refine WL.ex rfl rfl rfl (Ex.fa fl50_3 rfl) ?_
          refine WL.ex rfl rfl rfl (Ex.loadA ty48 rfl (l := intV p.am) (int4_len hpo.am) (M17.rdt (i := 0) rfl (itt_g3 hpo))) ?_
          refine WL.ac rfl rfl rfl (Ac.bs M17 (parts := [(0, .tmp 41)]) (l := intV p.am) rfl rfl (LitS.agg1 el102 rfl (int4_len hpo.am) (by decide))) ?_; rintro v37 w37 ⟨gs, rfl, hg37, K37, M37⟩
          refine WL.ac rfl rfl rfl (Ac.app M37 el102 rfl rfl (i := 2) rfl (by rw [int4_len hpo.am]) (M37.rdw (i := 0) rfl) (intV_one _) (by omega) (by unfold maxLen; omega)) ?_; rintro v38 w38 ⟨K38, M38⟩
          try dsimp only [List.set] at M38
          rw [show (amF (its.take i) tk fr to).flatMap intV ++ intV p.am = (amF (its.take (i + 1)) tk fr to).flatMap intV by rw [hst]; simp, show (amF (its.take i) tk fr to).length + 1 = (amF (its.take (i + 1)) tk fr to).length by rw [hst]; simp] at M38
          refine WL.ex rfl rfl rfl (Ex.asg rfl) ?_
          refine WL.nil ?_
          refine WX.normal_block (WX.next (?_))
          refine WC.region ?_
          refine WL.ex rfl rfl rfl (Ex.add rfl rfl (i64w _ (by omega) (by omega))) ?_
          refine WL.ex rfl rfl rfl (Ex.mv rfl) ?_
          refine WL.nil ?_
          refine WX.again (((i + 1, v38) : Nat × Value)) ?_ ?_ (.cons rfl (.cons rfl (.cons rfl (.cons rfl (.cons rfl (.cons rfl (.cons rfl (.cons rfl (.nil)))))))))
          · dsimp only; omega
          · dsimp only
            refine ⟨by omega, ?_⟩
            first | exact (Mem.sub M38 (.cons _ (.cons _ (.refl _)))) | (rw [hst]; exact (Mem.sub M38 (.cons _ (.cons _ (.refl _)))))
        · have hst := amF_no (tk := tk) (fr := fr) (to := to) hpi (fun h => h3 (by omega))
          refine WC.skip ?_
          refine WX.normal_block (WX.next (?_))
          refine WC.region ?_
          refine WL.ex rfl rfl rfl (Ex.add rfl rfl (i64w _ (by omega) (by omega))) ?_
          refine WL.ex rfl rfl rfl (Ex.mv rfl) ?_
          refine WL.nil ?_
          refine WX.again (((i + 1, v) : Nat × Value)) ?_ ?_ (.cons rfl (.cons rfl (.cons rfl (.cons rfl (.cons rfl (.cons rfl (.cons rfl (.cons rfl (.nil)))))))))
          · dsimp only; omega
          · dsimp only
            refine ⟨by omega, ?_⟩
            first | exact (Mem.sub M17 (.cons _ (.refl _))) | (rw [hst]; exact (Mem.sub M17 (.cons _ (.refl _))))
      · rw [decide_eq_false h2]
        have hst := amF_no (tk := tk) (fr := fr) (to := to) hpi (fun h => h2 (by omega))
        refine WL.no rfl rfl rfl rfl rfl rfl ?_
        refine WL.no rfl rfl rfl rfl rfl rfl ?_
        refine WL.no rfl rfl rfl rfl rfl rfl ?_
        refine WL.no rfl rfl rfl rfl rfl rfl ?_
        refine WL.ex rfl rfl rfl (Ex.pickF rfl rfl) ?_
        refine WL.nil ?_
        refine WX.next (?_)
        refine WC.no rfl ?_
        refine WC.skip ?_
        refine WX.normal_block (WX.next (?_))
        refine WC.region ?_
        refine WL.ex rfl rfl rfl (Ex.add rfl rfl (i64w _ (by omega) (by omega))) ?_
        refine WL.ex rfl rfl rfl (Ex.mv rfl) ?_
        refine WL.nil ?_
        refine WX.again (((i + 1, v) : Nat × Value)) ?_ ?_ (.cons rfl (.cons rfl (.cons rfl (.cons rfl (.cons rfl (.cons rfl (.cons rfl (.cons rfl (.nil)))))))))
        · dsimp only; omega
        · dsimp only
          refine ⟨by omega, ?_⟩
          first | exact (Mem.sub M17 (.cons _ (.refl _))) | (rw [hst]; exact (Mem.sub M17 (.cons _ (.refl _))))
    · rw [decide_eq_false h1]
      have hst := amF_no (tk := tk) (fr := fr) (to := to) hpi (fun h => h1 (by omega))
      refine WL.no rfl rfl rfl rfl rfl rfl ?_
      refine WL.no rfl rfl rfl rfl rfl rfl ?_
      refine WL.no rfl rfl rfl rfl rfl rfl ?_
      refine WL.no rfl rfl rfl rfl rfl rfl ?_
      refine WL.ex rfl rfl rfl (Ex.pickF rfl rfl) ?_
      refine WL.ex rfl rfl rfl (Ex.mv rfl) ?_
      refine WL.no rfl rfl rfl rfl rfl rfl ?_
      refine WL.no rfl rfl rfl rfl rfl rfl ?_
      refine WL.no rfl rfl rfl rfl rfl rfl ?_
      refine WL.no rfl rfl rfl rfl rfl rfl ?_
      refine WL.ex rfl rfl rfl (Ex.pickF rfl rfl) ?_
      refine WL.nil ?_
      refine WX.next (?_)
      refine WC.no rfl ?_
      refine WC.skip ?_
      refine WX.normal_block (WX.next (?_))
      refine WC.region ?_
      refine WL.ex rfl rfl rfl (Ex.add rfl rfl (i64w _ (by omega) (by omega))) ?_
      refine WL.ex rfl rfl rfl (Ex.mv rfl) ?_
      refine WL.nil ?_
      refine WX.again (((i + 1, v) : Nat × Value)) ?_ ?_ (.cons rfl (.cons rfl (.cons rfl (.cons rfl (.cons rfl (.cons rfl (.cons rfl (.cons rfl (.nil)))))))))
      · dsimp only; omega
      · dsimp only
        refine ⟨by omega, ?_⟩
        first | exact (Mem.sub M17 (.cons _ (.refl _))) | (rw [hst]; exact (Mem.sub M17 (.cons _ (.refl _))))
  · obtain rfl : i = its.length := by omega
    rw [List.take_length] at M10
    refine WC.exit ?_
    refine WX.exit_then (WX.exit_then (WX.exit_block (WX.next (?_))))
    refine WC.seq ?_
    refine WC.region ?_
    obtain ⟨Av, cv, rfl⟩ := own_slice (M10.get (i := 0) rfl)
    have hll := amF_len its tk fr to
    refine WL.ex rfl rfl rfl (Ex.mv rfl) ?_
    refine WL.ac rfl rfl rfl (Ac.call rfl Tryd.func49 nm49 rfl ((hSum_ok w10 Av cv (amF its tk fr to) (M10.rdr (i := 0) rfl) hao (by omega)))) ?_; rintro v53 w53 ⟨rfl, K53⟩
    have M53 := M10.step K53
    refine WL.ex rfl rfl rfl (Ex.ext rfl rfl) ?_
    refine WL.ex rfl rfl rfl (Ex.ext rfl rfl) ?_
    refine WL.ac0 rfl rfl (Ac.stA M53 ty48 rfl rfl rfl (int4_len (by first | assumption | exact int4_0)) (intV_one _) (i := 1) rfl (by first | (rw [int4_len (by first | assumption | exact int4_0), int4_len (by first | assumption | exact int4_0)]; decide) | (rw [int4_len (by first | assumption | exact int4_0)]; decide) | rw [int4_len (by first | assumption | exact int4_0)])) ?_; rintro v56 w56 ⟨K56, M56⟩
    try dsimp only [List.set] at M56
    rw [splice_all _ _ (by first | rw [int4_len (by first | assumption | exact int4_0), int4_len (by first | assumption | exact int4_0)] | rw [int4_len (by first | assumption | exact int4_0)])] at M56
    refine WL.ex rfl rfl rfl (Ex.asg rfl) ?_
    refine WL.nil ?_
    refine WX.next (?_)
    refine WC.ret ?_
    refine WX.retn rfl (.cell rfl (run_loadVarA ty48 (int4_len (by first | assumption | exact int4_0)) (M56.rdw (i := 1) rfl)) (.tmp rfl .nil)) rfl ?_
    exact ⟨rfl, M56.keep⟩

/- sponsion/sponsionref19.Total -/
theorem rTotal_ok (w : World) (A : Option Addr) (c : Nat) (its : List Itt) (tk fr to : Nat) (hr : Rd w A (its.flatMap ittC)) (hok : ∀ t ∈ its, IttOk t) (hb : its.length ≤ 10000) :
    Gives Tryd.prog 21 #[.slice A its.length c, .int .u8 (tk : Int), .int .u64 (fr : Int), .int .u64 (to : Int)] w fun u w1 => u = .tuple #[.agg (intV (sumI (vsum (amF its tk fr to))).1).toArray, .bool (decide (vsum (amF its tk fr to) < M256))] ∧ Keep nof w w1 := by
  have M0 := Mem.start w nof
  have hso := sumI_ok (vsum (amF its tk fr to))
  refine Gives.enter (n := 46) Tryd.func21 rfl Tryd.ntmps21 rfl (env := [(0, .slice A its.length c), (1, .int .u8 (tk : Int)), (2, .int .u64 (fr : Int)), (3, .int .u64 (to : Int))]) rfl ?_
  refine WC.seq ?_
  refine WC.region ?_
  refine WL.ac rfl rfl rfl (Ac.alloc M0 (l := intV [0, 0, 0, 0]) (by kernel_rfl)) ?_; rintro v1 w1 ⟨gr, rfl, hg1, K1, M1⟩
  refine WL.ex rfl rfl rfl (Ex.asg rfl) ?_
  refine WL.nil ?_
  refine WX.next (?_)
  refine WC.seq ?_
  refine WC.region ?_
  refine WL.ex rfl rfl rfl (Ex.asg rfl) ?_
  refine WL.nil ?_
  refine WX.next (?_)
  refine WC.seq ?_
  refine WC.seq ?_
  refine WC.region ?_
  refine WL.ex rfl rfl rfl (Ex.mv rfl) ?_
  refine WL.ex rfl rfl rfl (Ex.len Tryd.underlying27 rfl) ?_
  refine WL.ex rfl rfl rfl (Ex.mv rfl) ?_
  refine WL.nil ?_
  refine WX.next (?_)
  refine WC.block ?_
  refine WC.loop (σ := Nat × Value × List Nat) (fun s => [(1, .int .u8 (tk : Int)), (2, .int .u64 (fr : Int)), (3, .int .u64 (to : Int)), (8, .pointer (some ⟨gr, 0, none⟩)), (10, s.2.1), (13, .slice A its.length c), (14, .int .i64 (its.length : Int)), (15, .int .i64 (s.1 : Int))]) (fun s wr => s.1 ≤ its.length ∧ Dig s.2.2 ∧ dv s.2.2 = vsum (amF (its.take s.1) tk fr to) ∧ s.2.2.length ≤ 16 + s.1 ∧ Mem w wr nof [row s.2.1 3 1 s.2.2.length (i64V s.2.2), blk gr (intV [0, 0, 0, 0]) 48]) (fun s => its.length - s.1) (((0, .slice none 0 0, []) : Nat × Value × List Nat)) ?_ (.cons rfl (.cons rfl (.cons rfl (.cons rfl (.cons rfl (.cons rfl (.cons rfl (.cons rfl (.nil))))))))) ?_
  · exact ⟨by simp, (by intro d h; cases h), by simp [dv, vsum, amF], by simp, (M1.free (r := row (.slice none 0 0) 3 1 ([] : List Nat).length (i64V [])) (row_nil _ _ _) rfl)⟩
  rintro ⟨i, v, l⟩ w7 ⟨hi, hdl, hvl, hll, M7⟩
  dsimp only at hi hdl hvl hll M7
  refine WC.sub (env' := [(1, .int .u8 (tk : Int)), (2, .int .u64 (fr : Int)), (3, .int .u64 (to : Int)), (8, .pointer (some ⟨gr, 0, none⟩)), (10, v), (13, .slice A its.length c), (14, .int .i64 (its.length : Int)), (15, .int .i64 (i : Int))]) (.cons rfl (.cons rfl (.cons rfl (.cons rfl (.cons rfl (.cons rfl (.cons rfl (.cons rfl (.nil))))))))) ?_
  refine WC.seq ?_
  refine WC.region ?_
  refine WL.ex rfl rfl rfl (Ex.lss rfl rfl) ?_
  refine WL.nil ?_
  refine WX.next (?_)
  refine WC.seq ?_
  refine WC.cond_dec rfl (fun hc16 => ?_) (fun hc16 => ?_)
  · obtain ⟨p, hpi⟩ : ∃ p, its[i]? = some p := ⟨_, List.getElem?_eq_getElem (by omega)⟩
    have hpm := List.mem_of_getElem? hpi
    have hpo := hok p hpm
    obtain ⟨b0, o0, hA⟩ := hr.flat_plain hpm (by rw [itt_len hpo]; omega)
    subst hA
    have hlm : (amF (its.take i) tk fr to).length ≤ i := by have h1 := amF_len (its.take i) tk fr to; rw [List.length_take] at h1; omega
    obtain ⟨Av, cv, rfl⟩ := own_slice (M7.get (i := 0) rfl)
    refine WC.skip ?_
    refine WX.next (?_)
    refine WC.seq ?_
    refine WC.block ?_
    refine WC.seq ?_
    refine WC.region ?_
    refine WL.ex rfl rfl rfl (Ex.mv rfl) ?_
    refine WL.ex rfl rfl rfl (Ex.ia Tryd.underlying27 sz50 rfl rfl ⟨by omega, by omega⟩) ?_
    refine WL.ex rfl rfl rfl (Ex.loadA ty50 rfl (l := ittC p) (itt_len hpo) (Rd.flat (M7.rd hr) (i := (i : Int).toNat) (fun t ht => itt_len (hok t ht)) (by simpa using hpi))) ?_
    refine WL.ac rfl rfl rfl (Ac.alloc M7 (l := ittC itt0) (by kernel_rfl)) ?_; rintro v12 w12 ⟨gx, rfl, hg12, K12, M12⟩
    refine WL.ex rfl rfl rfl (Ex.asg rfl) ?_
    refine WL.ac0 rfl rfl (Ac.stA M12 ty50 rfl rfl rfl (itt_len (by first | assumption | exact itt0_ok)) itt_one (i := 0) rfl (by first | (rw [itt_len (by first | assumption | exact itt0_ok), itt_len (by first | assumption | exact itt0_ok)]; decide) | (rw [itt_len (by first | assumption | exact itt0_ok)]; decide) | rw [itt_len (by first | assumption | exact itt0_ok)])) ?_; rintro v14 w14 ⟨K14, M14⟩
    try dsimp only [List.set] at M14
    rw [splice_all _ _ (by first | rw [itt_len (by first | assumption | exact itt0_ok), itt_len (by first | assumption | exact itt0_ok)] | rw [itt_len (by first | assumption | exact itt0_ok)])] at M14
    refine WL.nil ?_
    refine WX.next (?_)
    refine WC.seq ?_
    refine WC.region ?_
    refine WL.ex rfl rfl rfl (Ex.fa fl50_1 rfl) ?_
    refine WL.ex rfl rfl rfl (Ex.load ty5 rfl (M14.cell (i := 0) rfl (itt_g1 hpo))) ?_
    refine WL.ex rfl rfl rfl (Ex.mv rfl) ?_
    refine WL.ex rfl rfl rfl (Ex.eqI rfl rfl) ?_
    refine WL.ex rfl rfl rfl (Ex.mv rfl) ?_
    by_cases h1 : (p.tk : Int) = (tk : Int)
    · rw [decide_eq_true h1]
      refine WL.yes rfl rfl rfl rfl ?_
      refine WL.ex rfl rfl rfl (Ex.mv rfl) ?_
      refine WL.yes rfl rfl rfl rfl ?_
      refine WL.ex rfl rfl rfl (Ex.cvI Tryd.underlying3 Tryd.underlying23 rfl (u64w_lt _ (by omega))) ?_
      refine WL.yes rfl rfl rfl rfl ?_
      refine WL.ex rfl rfl rfl (Ex.mv rfl) ?_
      refine WL.yes rfl rfl rfl rfl ?_
      refine WL.ex rfl rfl rfl (Ex.geq rfl rfl) ?_
      refine WL.ex rfl rfl rfl (Ex.pickT rfl rfl) ?_
      refine WL.ex rfl rfl rfl (Ex.mv rfl) ?_
      by_cases h2 : (i : Int) ≥ (fr : Int)
      · rw [decide_eq_true h2]
        refine WL.yes rfl rfl rfl rfl ?_
        refine WL.ex rfl rfl rfl (Ex.mv rfl) ?_
        refine WL.yes rfl rfl rfl rfl ?_
        refine WL.ex rfl rfl rfl (Ex.cvI Tryd.underlying3 Tryd.underlying23 rfl (u64w_lt _ (by omega))) ?_
        refine WL.yes rfl rfl rfl rfl ?_
        refine WL.ex rfl rfl rfl (Ex.mv rfl) ?_
        refine WL.yes rfl rfl rfl rfl ?_
        refine WL.ex rfl rfl rfl (Ex.lss rfl rfl) ?_
        refine WL.ex rfl rfl rfl (Ex.pickT rfl rfl) ?_
        refine WL.nil ?_
        refine WX.next (?_)
        refine WC.cond_dec rfl (fun h3 => ?_) (fun h3 => ?_)
        · have hst := amF_yes (tk := tk) (fr := fr) (to := to) hpi ⟨by omega, by omega, by omega⟩
          refine WC.region ?_
          refine WL.ex rfl rfl rfl (Ex.mv rfl) ?_
          refine WL.ex rfl rfl rfl (Ex.fa fl50_3 rfl) ?_
          refine WL.ex rfl rfl rfl (Ex.loadA ty48 rfl (l := intV p.am) (int4_len hpo.am) (M14.rdt (i := 0) rfl (itt_g3 hpo))) ?_
          refine WL.ac rfl rfl rfl (Ac.call rfl Tryd.func51 nm51 rfl (rRow_ok w14 p.am hpo.am)) ?_; rintro v34 w34 ⟨lr, hdr, hvr, hlr, N34⟩
          have M34 := M14.new N34
          obtain ⟨Ar, cr, rfl⟩ := own_slice (M34.get (i := 0) rfl)
          refine WL.ac rfl rfl rfl (Ac.call rfl Tryd.func50 nm50 rfl (rAdd_ok w34 Av Ar cv cr l lr (M34.rdr (i := 2) rfl) (M34.rdr (i := 0) rfl) hdl hdr (by omega) (by omega))) ?_; rintro v35 w35 ⟨l1, hd1, hv1, hl1, N35⟩
          have M35 := M34.new N35
          obtain ⟨v1, hv1e⟩ : ∃ q, q = v35 := ⟨_, rfl⟩
          rw [← hv1e] at M35 ⊢
          refine WL.ex rfl rfl rfl (Ex.asg rfl) ?_
          refine WL.nil ?_
          refine WX.normal_block (WX.next (?_))
          refine WC.region ?_
          refine WL.ex rfl rfl rfl (Ex.add rfl rfl (i64w _ (by omega) (by omega))) ?_
          refine WL.ex rfl rfl rfl (Ex.mv rfl) ?_
          refine WL.nil ?_
          refine WX.again (((i + 1, v1, l1) : Nat × Value × List Nat)) ?_ ?_ (.cons rfl (.cons rfl (.cons rfl (.cons rfl (.cons rfl (.cons rfl (.cons rfl (.cons rfl (.nil)))))))))
          · dsimp only; omega
          · dsimp only
            first | (refine ⟨by omega, hd1, ?_, by omega, (Mem.sub M35 (.cons_cons _ (.cons _ (.cons _ (.cons _ (.refl _))))))⟩; rw [hst, vsum_snoc, hv1, hvl, hvr]) | (refine ⟨by omega, hdl, ?_, by omega, (Mem.sub M35 (.cons_cons _ (.cons _ (.cons _ (.cons _ (.refl _))))))⟩; rw [hst, hvl])
        · have hst := amF_no (tk := tk) (fr := fr) (to := to) hpi (fun h => h3 (by omega))
          refine WC.skip ?_
          refine WX.normal_block (WX.next (?_))
          refine WC.region ?_
          refine WL.ex rfl rfl rfl (Ex.add rfl rfl (i64w _ (by omega) (by omega))) ?_
          refine WL.ex rfl rfl rfl (Ex.mv rfl) ?_
          refine WL.nil ?_
          refine WX.again (((i + 1, .slice Av l.length cv, l) : Nat × Value × List Nat)) ?_ ?_ (.cons rfl (.cons rfl (.cons rfl (.cons rfl (.cons rfl (.cons rfl (.cons rfl (.cons rfl (.nil)))))))))
          · dsimp only; omega
          · dsimp only
            first | (refine ⟨by omega, hd1, ?_, by omega, (Mem.sub M14 (.cons _ (.refl _)))⟩; rw [hst, vsum_snoc, hv1, hvl, hvr]) | (refine ⟨by omega, hdl, ?_, by omega, (Mem.sub M14 (.cons _ (.refl _)))⟩; rw [hst, hvl])
      · rw [decide_eq_false h2]
        have hst := amF_no (tk := tk) (fr := fr) (to := to) hpi (fun h => h2 (by omega))
        refine WL.no rfl rfl rfl rfl rfl rfl ?_
        refine WL.no rfl rfl rfl rfl rfl rfl ?_
        refine WL.no rfl rfl rfl rfl rfl rfl ?_
        refine WL.no rfl rfl rfl rfl rfl rfl ?_
        refine WL.ex rfl rfl rfl (Ex.pickF rfl rfl) ?_
        refine WL.nil ?_
        refine WX.next (?_)
        refine WC.no rfl ?_
        refine WC.skip ?_
        refine WX.normal_block (WX.next (?_))
        refine WC.region ?_
        refine WL.ex rfl rfl rfl (Ex.add rfl rfl (i64w _ (by omega) (by omega))) ?_
        refine WL.ex rfl rfl rfl (Ex.mv rfl) ?_
        refine WL.nil ?_
        refine WX.again (((i + 1, .slice Av l.length cv, l) : Nat × Value × List Nat)) ?_ ?_ (.cons rfl (.cons rfl (.cons rfl (.cons rfl (.cons rfl (.cons rfl (.cons rfl (.cons rfl (.nil)))))))))
        · dsimp only; omega
        · dsimp only
          first | (refine ⟨by omega, hd1, ?_, by omega, (Mem.sub M14 (.cons _ (.refl _)))⟩; rw [hst, vsum_snoc, hv1, hvl, hvr]) | (refine ⟨by omega, hdl, ?_, by omega, (Mem.sub M14 (.cons _ (.refl _)))⟩; rw [hst, hvl])
    · rw [decide_eq_false h1]
      have hst := amF_no (tk := tk) (fr := fr) (to := to) hpi (fun h => h1 (by omega))
      refine WL.no rfl rfl rfl rfl rfl rfl ?_
      refine WL.no rfl rfl rfl rfl rfl rfl ?_
      refine WL.no rfl rfl rfl rfl rfl rfl ?_
      refine WL.no rfl rfl rfl rfl rfl rfl ?_
      refine WL.ex rfl rfl rfl (Ex.pickF rfl rfl) ?_
      refine WL.ex rfl rfl rfl (Ex.mv rfl) ?_
      refine WL.no rfl rfl rfl rfl rfl rfl ?_
      refine WL.no rfl rfl rfl rfl rfl rfl ?_
      refine WL.no rfl rfl rfl rfl rfl rfl ?_
      refine WL.no rfl rfl rfl rfl rfl rfl ?_
      refine WL.ex rfl rfl rfl (Ex.pickF rfl rfl) ?_
      refine WL.nil ?_
      refine WX.next (?_)
      refine WC.no rfl ?_
      refine WC.skip ?_
      refine WX.normal_block (WX.next (?_))
      refine WC.region ?_
      refine WL.ex rfl rfl rfl (Ex.add rfl rfl (i64w _ (by omega) (by omega))) ?_
      refine WL.ex rfl rfl rfl (Ex.mv rfl) ?_
      refine WL.nil ?_
      refine WX.again (((i + 1, .slice Av l.length cv, l) : Nat × Value × List Nat)) ?_ ?_ (.cons rfl (.cons rfl (.cons rfl (.cons rfl (.cons rfl (.cons rfl (.cons rfl (.cons rfl (.nil)))))))))
      · dsimp only; omega
      · dsimp only
        first | (refine ⟨by omega, hd1, ?_, by omega, (Mem.sub M14 (.cons _ (.refl _)))⟩; rw [hst, vsum_snoc, hv1, hvl, hvr]) | (refine ⟨by omega, hdl, ?_, by omega, (Mem.sub M14 (.cons _ (.refl _)))⟩; rw [hst, hvl])
  · obtain rfl : i = its.length := by omega
    rw [List.take_length] at hvl
    refine WC.exit ?_
    refine WX.exit_then (WX.exit_then (WX.exit_block (WX.next (?_))))
    refine WC.seq ?_
    refine WC.region ?_
    obtain ⟨Av, cv, rfl⟩ := own_slice (M7.get (i := 0) rfl)
    have hcv := own_cap2 (M7.get (i := 0) rfl)
    refine WL.ex rfl rfl rfl (Ex.mv rfl) ?_
    refine WL.ac rfl rfl rfl (Ac.call rfl Tryd.func52 nm52 rfl (rInt2_ok w7 Av cv l (M7.rdr (i := 0) rfl) hdl hcv.1 hcv.2)) ?_; rintro v50 w50 ⟨rfl, K50⟩
    rw [hvl]
    have M50 := M7.step K50
    refine WL.ex rfl rfl rfl (Ex.ext rfl rfl) ?_
    refine WL.ex rfl rfl rfl (Ex.ext rfl rfl) ?_
    refine WL.ac0 rfl rfl (Ac.stA M50 ty48 rfl rfl rfl (int4_len (by first | assumption | exact int4_0)) (intV_one _) (i := 1) rfl (by first | (rw [int4_len (by first | assumption | exact int4_0), int4_len (by first | assumption | exact int4_0)]; decide) | (rw [int4_len (by first | assumption | exact int4_0)]; decide) | rw [int4_len (by first | assumption | exact int4_0)])) ?_; rintro v53 w53 ⟨K53, M53⟩
    try dsimp only [List.set] at M53
    rw [splice_all _ _ (by first | rw [int4_len (by first | assumption | exact int4_0), int4_len (by first | assumption | exact int4_0)] | rw [int4_len (by first | assumption | exact int4_0)])] at M53
    refine WL.ex rfl rfl rfl (Ex.asg rfl) ?_
    refine WL.nil ?_
    refine WX.next (?_)
    refine WC.ret ?_
    refine WX.retn rfl (.cell rfl (run_loadVarA ty48 (int4_len (by first | assumption | exact int4_0)) (M53.rdw (i := 1) rfl)) (.tmp rfl .nil)) rfl ?_
    exact ⟨rfl, M53.keep⟩

/- slices.Values[[]sponsion/api.Intent,sponsion/api.Intent] -/
theorem vls_ok (w : World) (A : Option Addr) (n c : Nat) : Gives Tryd.prog 47 #[.slice A n c] w fun u w1 => ∃ g, u = .func (.func 81) #[] #[.pointer (some ⟨g, 0, none⟩)] ∧ New w w1 (blk g [.slice A n c] 27) := by
  have M0 := Mem.start w nof
  refine Gives.enter (n := 4) Tryd.func47 rfl Tryd.ntmps47 rfl (env := [(0, .slice A n c)]) rfl ?_
  refine WC.seq ?_
  refine WC.region ?_
  refine WL.ac rfl rfl rfl (Ac.box M0 rfl (l := [.slice A n c]) rfl) ?_; rintro v1 w1 ⟨gb, rfl, hg1, K1, M1⟩
  refine WL.ex rfl rfl rfl (Ex.asg rfl) ?_
  refine WL.nil ?_
  refine WX.next (?_)
  refine WC.seq ?_
  refine WC.region ?_
  refine WL.ex rfl rfl rfl (Ex.mkf rfl rfl) ?_
  refine WL.ex rfl rfl rfl (Ex.asg rfl) ?_
  refine WL.nil ?_
  refine WX.next (?_)
  refine WC.ret ?_
  refine WX.ret1 rfl rfl ?_
  exact ⟨_, rfl, M1.toNew⟩

/- (*sponsion/outbox.Outbox).All -/
theorem oAll_ok (w : World) (go gt gl ge : Nat) (vs : List Value) (A : Option Addr) (c : Nat) (its : List Itt) (hO : OxS w go gt gl ge vs A c its) (hok : ∀ t ∈ its, IttOk t) (hb : its.length ≤ 1000000) :
    Gives Tryd.prog 18 #[.pointer (some ⟨go, 0, none⟩)] w fun u w1 => ∃ g v, u = .func (.func 81) #[] #[.pointer (some ⟨g, 0, none⟩)] ∧ New w w1 (box1 g (fun v => [v]) 27 v 50 7 its.length (its.flatMap ittC)) := by
  have M0 := Mem.start w nof
  have hr := hO.rd
  refine Gives.enter (n := 9) Tryd.func18 rfl Tryd.ntmps18 rfl (env := [(0, .pointer (some ⟨go, 0, none⟩))]) rfl ?_
  refine WC.seq ?_
  refine WC.region ?_
  refine WL.ex rfl rfl rfl (Ex.asg rfl) ?_
  refine WL.nil ?_
  refine WX.next (?_)
  refine WC.seq ?_
  refine WC.region ?_
  refine WL.ex rfl rfl rfl (Ex.mv rfl) ?_
  refine WL.ex rfl rfl rfl (Ex.nilc rfl) ?_
  refine WL.ex rfl rfl rfl (Ex.fa fl93_0 rfl) ?_
  refine WL.ex rfl rfl rfl (Ex.load ty27 rfl (hO.keep M0.keep).c0) ?_
  refine WL.ac rfl rfl rfl (Ac.call rfl Tryd.func48 nm48 rfl (cloneI_ok w A c its (M0.rd hr) hok hb)) ?_; rintro v6 w6 N6
  have M6 := M0.new N6
  obtain ⟨Av, cv, rfl⟩ := own_slice (M6.get (i := 0) rfl)
  refine WL.ac rfl rfl rfl (Ac.call rfl Tryd.func47 nm47 rfl (vls_ok w6 Av its.length cv)) ?_; rintro v7 w7 ⟨gb, rfl, N7⟩
  have M7 := M6.new N7
  refine WL.ex rfl rfl rfl (Ex.asg rfl) ?_
  refine WL.nil ?_
  refine WX.next (?_)
  refine WC.ret ?_
  refine WX.ret1 rfl rfl ?_
  exact ⟨_, _, rfl, (Mem.close1 (fun v => [v]) M7).toNew⟩

end Go.Proofs.YtchmjpdkonfifaaDoor
