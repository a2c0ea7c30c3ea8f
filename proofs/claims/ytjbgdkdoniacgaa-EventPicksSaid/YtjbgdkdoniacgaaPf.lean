/- Walks, written by gen.py off the translation's own print: each says what the Go function comes to. -/
import Derived.Test.YtjbgdkdoniacgaaPe
import Derived.Test.YtjbgdkdoniacgaaSc
set_option linter.unusedVariables false
set_option linter.unusedSimpArgs false
namespace Go.Proofs.Ytjbgdkdoniacgaa
open Go.Sx Go.RowKit
attribute [local irreducible] Ac Ex WL WC WX WP Gives

abbrev amsV (es : List Ev) : List Value := (es.map (·.am)).flatMap intV
theorem ams_snoc {es : List Ev} {i : Nat} {p : Ev} (h : es[i]? = some p) : amsV (es.take (i + 1)) = amsV (es.take i) ++ intV p.am := by rw [take_snoc h]; simp [amsV]
theorem vsum_ams {es : List Ev} {i : Nat} {p : Ev} (h : es[i]? = some p) : vsum ((es.take (i + 1)).map (·.am)) = vsum ((es.take i).map (·.am)) + v64 p.am := by rw [take_snoc h, List.map_append, vsum_app]; rfl
theorem ams_ok {w : World} {A : Option Addr} {es : List Ev} (h : RdE w A es) : ∀ a ∈ es.map (·.am), Int4 a := by
  intro a ha
  obtain ⟨t, ht, rfl⟩ := List.mem_map.1 ha
  exact (h.ok t ht).am

/- sponsion/event.Total -/
theorem eTot_ok (w : World) (A : Option Addr) (c : Nat) (es : List Ev) (hr : RdE w A es) (hb : es.length ≤ 1000000) :
    Gives Try.prog 8 #[.slice A es.length c] w fun u w1 => u = .tuple #[.agg (intV (sumI (vsum (es.map (·.am)))).1).toArray, .int .i64 (sumI (vsum (es.map (·.am)))).2] ∧ Keep nof w w1 := by
  have M0 := Mem.start w nof
  have hso := sumI_ok (vsum (es.map (·.am)))
  have hao := ams_ok hr
  refine Gives.enter (n := 23) Try.func8 rfl Try.ntmps8 rfl (env := [(0, .slice A es.length c)]) rfl ?_
  refine WC.seq ?_
  refine WC.region ?_
  refine WL.ac rfl rfl rfl (Ac.alloc M0 (l := intV [0, 0, 0, 0]) (by kernel_rfl)) ?_; rintro v1 w1 ⟨gr, rfl, hg1, K1, M1⟩
  refine WL.ex rfl rfl rfl (Ex.asg rfl) ?_
  refine WL.nil ?_
  refine WX.next (?_)
  refine WC.seq ?_
  refine WC.region ?_
  refine WL.ex rfl rfl rfl (Ex.asg rfl) ?_
  refine WL.nil ?_
  refine WX.next (?_)
  refine WC.seq ?_
  refine WC.seq ?_
  refine WC.region ?_
  refine WL.ex rfl rfl rfl (Ex.mv rfl) ?_
  refine WL.ex rfl rfl rfl (Ex.len Try.underlying22 rfl) ?_
  refine WL.ex rfl rfl rfl (Ex.mv rfl) ?_
  refine WL.nil ?_
  refine WX.next (?_)
  refine WC.block ?_
  refine WC.loop (σ := Nat × Value) (fun s => [(2, .pointer (some ⟨gr, 0, none⟩)), (4, s.2), (7, .slice A es.length c), (8, .int .i64 (es.length : Int)), (9, .int .i64 (s.1 : Int))]) (fun s wr => s.1 ≤ es.length ∧ Mem w wr nof [row s.2 31 4 s.1 (amsV (es.take s.1)), blk gr (intV [0, 0, 0, 0]) 31]) (fun s => es.length - s.1) (((0, .slice none 0 0) : Nat × Value)) ?_ (.cons rfl (.cons rfl (.cons rfl (.cons rfl (.cons rfl (.nil)))))) ?_
  · exact ⟨by simp, (M1.free (r := row (.slice none 0 0) 31 4 0 []) (row_nil _ _ _) rfl)⟩
  rintro ⟨i, v⟩ w7 ⟨hi, M7⟩
  dsimp only at hi M7
  refine WC.sub (env' := [(2, .pointer (some ⟨gr, 0, none⟩)), (4, v), (7, .slice A es.length c), (8, .int .i64 (es.length : Int)), (9, .int .i64 (i : Int))]) (.cons rfl (.cons rfl (.cons rfl (.cons rfl (.cons rfl (.nil)))))) ?_
  refine WC.seq ?_
  refine WC.region ?_
  refine WL.ex rfl rfl rfl (Ex.lss rfl rfl) ?_
  refine WL.nil ?_
  refine WX.next (?_)
  refine WC.seq ?_
  refine WC.cond_dec rfl (fun hc10 => ?_) (fun hc10 => ?_)
  · obtain ⟨p, hpi⟩ : ∃ p, es[i]? = some p := ⟨_, List.getElem?_eq_getElem (by omega)⟩
    have hpm : p ∈ es := List.mem_of_getElem? hpi
    have hpo := hr.ok p hpm
    obtain ⟨b0, o0, hA⟩ := hr.plain hpi
    subst hA
    refine WC.skip ?_
    refine WX.next (?_)
    refine WC.seq ?_
    refine WC.block ?_
    refine WC.seq ?_
    refine WC.region ?_
    refine WL.ex rfl rfl rfl (Ex.ia Try.underlying22 sz45 rfl rfl ⟨by omega, by omega⟩) ?_
    refine WL.ex rfl rfl rfl (Ex.loadA ty45 rfl (l := evC p) (ev_len hpo) (Rd.flat (hr.keep M7.keep).row (i := (i : Int).toNat) (fun t ht => ev_len (hr.ok t ht)) (by simpa using hpi))) ?_
    refine WL.ac rfl rfl rfl (Ac.alloc M7 (l := evC ev0) (by kernel_rfl)) ?_; rintro v11 w11 ⟨gi, rfl, hg11, K11, M11⟩
    refine WL.ac0 rfl rfl (Ac.stA M11 ty45 rfl rfl (vs := evC p) rfl (ev_len hpo) ev_one (i := 0) rfl (by rw [ev_len hpo, ev_len ev0_ok]; decide)) ?_; rintro v12 w12 ⟨K12, M12⟩
    try dsimp only [List.set] at M12
    rw [splice_all _ _ (by rw [ev_len hpo, ev_len ev0_ok])] at M12
    refine WL.nil ?_
    refine WX.next (?_)
    refine WC.region ?_
    refine WL.ex rfl rfl rfl (Ex.mv rfl) ?_
    refine WL.ex rfl rfl rfl (Ex.fa fl45_7 rfl) ?_
    refine WL.ex rfl rfl rfl (Ex.loadA ty31 rfl (l := intV p.am) (int4_len hpo.am) (M12.rdt (i := 0) rfl (ev_38 hpo))) ?_
    refine WL.ac rfl rfl rfl (Ac.bs M12 (parts := [(0, .tmp 15)]) (l := intV p.am) rfl rfl (LitS.agg1 el50 rfl (int4_len hpo.am) (by decide))) ?_; rintro v16 w16 ⟨gs, rfl, hg16, K16, M16⟩
    refine WL.ac rfl rfl rfl (Ac.app M16 el50 rfl rfl (i := 2) rfl (by rw [int4_len hpo.am]) (M16.rdw (i := 0) rfl) (intV_one _) (by omega) (by unfold maxLen; omega)) ?_; rintro v17 w17 ⟨K17, M17⟩
    try dsimp only [List.set] at M17
    rw [← ams_snoc hpi] at M17
    refine WL.ex rfl rfl rfl (Ex.asg rfl) ?_
    refine WL.nil ?_
    refine WX.normal_block (WX.next (?_))
    refine WC.region ?_
    refine WL.ex rfl rfl rfl (Ex.add rfl rfl (i64w _ (by omega) (by omega))) ?_
    refine WL.ex rfl rfl rfl (Ex.mv rfl) ?_
    refine WL.nil ?_
    refine WX.again (((i + 1, v17) : Nat × Value)) ?_ ?_ (.cons rfl (.cons rfl (.cons rfl (.cons rfl (.cons rfl (.nil))))))
    · dsimp only; omega
    · exact ⟨by dsimp only; omega, (Mem.sub M17 (.cons _ (.cons _ (.refl _))))⟩
  · obtain rfl : i = es.length := by omega
    rw [List.take_length] at M7
    refine WC.exit ?_
    refine WX.exit_then (WX.exit_then (WX.exit_block (WX.next (?_))))
    refine WC.seq ?_
    refine WC.region ?_
    obtain ⟨Av, cv, rfl⟩ := own_slice (M7.get (i := 0) rfl)
    refine WL.ex rfl rfl rfl (Ex.mv rfl) ?_
    refine WL.ac rfl rfl rfl (Ac.call rfl Try.func15 nm15 rfl ((by
      have hx := hSum_ok w7 Av cv (es.map (·.am)) (M7.rdr (i := 0) rfl) hao (by simpa using hb)
      rw [List.length_map] at hx
      exact hx))) ?_; rintro v22 w22 ⟨rfl, K22⟩
    have M22 := M7.step K22
    refine WL.ex rfl rfl rfl (Ex.ext rfl rfl) ?_
    refine WL.ex rfl rfl rfl (Ex.ext rfl rfl) ?_
    refine WL.ac0 rfl rfl (Ac.stA M22 ty31 rfl rfl rfl (int4_len (by first | assumption | exact int4_0)) (intV_one _) (i := 1) rfl (by first | (rw [int4_len (by first | assumption | exact int4_0), int4_len (by first | assumption | exact int4_0)]; decide) | (rw [int4_len (by first | assumption | exact int4_0)]; decide) | rw [int4_len (by first | assumption | exact int4_0)])) ?_; rintro v25 w25 ⟨K25, M25⟩
    try dsimp only [List.set] at M25
    rw [splice_all _ _ (by first | rw [int4_len (by first | assumption | exact int4_0), int4_len (by first | assumption | exact int4_0)] | rw [int4_len (by first | assumption | exact int4_0)])] at M25
    refine WL.ex rfl rfl rfl (Ex.asg rfl) ?_
    refine WL.nil ?_
    refine WX.next (?_)
    refine WC.ret ?_
    refine WX.retn rfl (.cell rfl (run_loadVarA ty31 (int4_len (by first | assumption | exact int4_0)) (M25.rdw (i := 1) rfl)) (.tmp rfl .nil)) rfl ?_
    exact ⟨rfl, M25.keep⟩

/- sponsion/sponsionref09.Total -/
theorem rTot_ok (w : World) (A : Option Addr) (c : Nat) (es : List Ev) (hr : RdE w A es) (hb : es.length ≤ 10000) :
    Gives Try.prog 9 #[.slice A es.length c] w fun u w1 => u = .tuple #[.agg (intV (sumI (vsum (es.map (·.am)))).1).toArray, .bool (decide (vsum (es.map (·.am)) < M256))] ∧ Keep nof w w1 := by
  have M0 := Mem.start w nof
  have hso := sumI_ok (vsum (es.map (·.am)))
  refine Gives.enter (n := 23) Try.func9 rfl Try.ntmps9 rfl (env := [(0, .slice A es.length c)]) rfl ?_
  refine WC.seq ?_
  refine WC.region ?_
  refine WL.ac rfl rfl rfl (Ac.alloc M0 (l := intV [0, 0, 0, 0]) (by kernel_rfl)) ?_; rintro v1 w1 ⟨gr, rfl, hg1, K1, M1⟩
  refine WL.ex rfl rfl rfl (Ex.asg rfl) ?_
  refine WL.nil ?_
  refine WX.next (?_)
  refine WC.seq ?_
  refine WC.region ?_
  refine WL.ex rfl rfl rfl (Ex.asg rfl) ?_
  refine WL.nil ?_
  refine WX.next (?_)
  refine WC.seq ?_
  refine WC.seq ?_
  refine WC.region ?_
  refine WL.ex rfl rfl rfl (Ex.mv rfl) ?_
  refine WL.ex rfl rfl rfl (Ex.len Try.underlying27 rfl) ?_
  refine WL.ex rfl rfl rfl (Ex.mv rfl) ?_
  refine WL.nil ?_
  refine WX.next (?_)
  refine WC.block ?_
  refine WC.loop (σ := Nat × Value × List Nat) (fun s => [(2, .pointer (some ⟨gr, 0, none⟩)), (4, s.2.1), (7, .slice A es.length c), (8, .int .i64 (es.length : Int)), (9, .int .i64 (s.1 : Int))]) (fun s wr => s.1 ≤ es.length ∧ Dig s.2.2 ∧ dv s.2.2 = vsum ((es.take s.1).map (·.am)) ∧ s.2.2.length ≤ 16 + s.1 ∧ Mem w wr nof [row s.2.1 3 1 s.2.2.length (i64V s.2.2), blk gr (intV [0, 0, 0, 0]) 31]) (fun s => es.length - s.1) (((0, .slice none 0 0, []) : Nat × Value × List Nat)) ?_ (.cons rfl (.cons rfl (.cons rfl (.cons rfl (.cons rfl (.nil)))))) ?_
  · exact ⟨by simp, (by intro d h; cases h), by simp [dv, vsum], by simp, (M1.free (r := row (.slice none 0 0) 3 1 ([] : List Nat).length (i64V [])) (row_nil _ _ _) rfl)⟩
  rintro ⟨i, v, l⟩ w7 ⟨hi, hdl, hvl, hll, M7⟩
  dsimp only at hi hdl hvl hll M7
  refine WC.sub (env' := [(2, .pointer (some ⟨gr, 0, none⟩)), (4, v), (7, .slice A es.length c), (8, .int .i64 (es.length : Int)), (9, .int .i64 (i : Int))]) (.cons rfl (.cons rfl (.cons rfl (.cons rfl (.cons rfl (.nil)))))) ?_
  refine WC.seq ?_
  refine WC.region ?_
  refine WL.ex rfl rfl rfl (Ex.lss rfl rfl) ?_
  refine WL.nil ?_
  refine WX.next (?_)
  refine WC.seq ?_
  refine WC.cond_dec rfl (fun hc10 => ?_) (fun hc10 => ?_)
  · obtain ⟨p, hpi⟩ : ∃ p, es[i]? = some p := ⟨_, List.getElem?_eq_getElem (by omega)⟩
    have hpm : p ∈ es := List.mem_of_getElem? hpi
    have hpo := hr.ok p hpm
    obtain ⟨b0, o0, hA⟩ := hr.plain hpi
    subst hA
    refine WC.skip ?_
    refine WX.next (?_)
    refine WC.seq ?_
    refine WC.block ?_
    refine WC.seq ?_
    refine WC.region ?_
    refine WL.ex rfl rfl rfl (Ex.ia Try.underlying27 sz34 rfl rfl ⟨by omega, by omega⟩) ?_
    refine WL.ex rfl rfl rfl (Ex.loadA ty34 rfl (l := evC p) (ev_len hpo) (Rd.flat (hr.keep M7.keep).row (i := (i : Int).toNat) (fun t ht => ev_len (hr.ok t ht)) (by simpa using hpi))) ?_
    refine WL.ac rfl rfl rfl (Ac.alloc M7 (l := evC ev0) (by kernel_rfl)) ?_; rintro v11 w11 ⟨gi, rfl, hg11, K11, M11⟩
    refine WL.ac0 rfl rfl (Ac.stA M11 ty34 rfl rfl (vs := evC p) rfl (ev_len hpo) ev_one (i := 0) rfl (by rw [ev_len hpo, ev_len ev0_ok]; decide)) ?_; rintro v12 w12 ⟨K12, M12⟩
    try dsimp only [List.set] at M12
    rw [splice_all _ _ (by rw [ev_len hpo, ev_len ev0_ok])] at M12
    refine WL.nil ?_
    refine WX.next (?_)
    refine WC.region ?_
    obtain ⟨Av, cv, rfl⟩ := own_slice (M12.get (i := 1) rfl)
    refine WL.ex rfl rfl rfl (Ex.mv rfl) ?_
    refine WL.ex rfl rfl rfl (Ex.fa fl34_7 rfl) ?_
    refine WL.ex rfl rfl rfl (Ex.loadA ty31 rfl (l := intV p.am) (int4_len hpo.am) (M12.rdt (i := 0) rfl (ev_38 hpo))) ?_
    refine WL.ac rfl rfl rfl (Ac.call rfl Try.func17 nm17 rfl (rRow_ok w12 p.am hpo.am)) ?_; rintro v16 w16 ⟨lr, hdr, hvr, hlr, N16⟩
    have M16 := M12.new N16
    obtain ⟨Ar, cr, rfl⟩ := own_slice (M16.get (i := 0) rfl)
    refine WL.ac rfl rfl rfl (Ac.call rfl Try.func16 nm16 rfl (rAdd_ok w16 Av Ar cv cr l lr (M16.rdr (i := 2) rfl) (M16.rdr (i := 0) rfl) hdl hdr (by omega) (by omega))) ?_; rintro v17 w17 ⟨l1, hd1, hv1, hl1, N17⟩
    have M17 := M16.new N17
    obtain ⟨v1, hv1e⟩ : ∃ q, q = v17 := ⟨_, rfl⟩
    rw [← hv1e] at M17 ⊢
    refine WL.ex rfl rfl rfl (Ex.asg rfl) ?_
    refine WL.nil ?_
    refine WX.normal_block (WX.next (?_))
    refine WC.region ?_
    refine WL.ex rfl rfl rfl (Ex.add rfl rfl (i64w _ (by omega) (by omega))) ?_
    refine WL.ex rfl rfl rfl (Ex.mv rfl) ?_
    refine WL.nil ?_
    refine WX.again (((i + 1, v1, l1) : Nat × Value × List Nat)) ?_ ?_ (.cons rfl (.cons rfl (.cons rfl (.cons rfl (.cons rfl (.nil))))))
    · dsimp only; omega
    · refine ⟨by dsimp only; omega, hd1, ?_, by dsimp only; omega, (Mem.sub M17 (.cons_cons _ (.cons _ (.cons _ (.cons _ (.refl _))))))⟩
      dsimp only
      rw [vsum_ams hpi, hv1, hvl, hvr]
  · obtain rfl : i = es.length := by omega
    rw [List.take_length] at hvl
    refine WC.exit ?_
    refine WX.exit_then (WX.exit_then (WX.exit_block (WX.next (?_))))
    refine WC.seq ?_
    refine WC.region ?_
    obtain ⟨Av, cv, rfl⟩ := own_slice (M7.get (i := 0) rfl)
    have hcv := own_cap2 (M7.get (i := 0) rfl)
    refine WL.ex rfl rfl rfl (Ex.mv rfl) ?_
    refine WL.ac rfl rfl rfl (Ac.call rfl Try.func18 nm18 rfl (rInt2_ok w7 Av cv l (M7.rdr (i := 0) rfl) hdl hcv.1 hcv.2)) ?_; rintro v22 w22 ⟨rfl, K22⟩
    rw [hvl]
    have M22 := M7.step K22
    refine WL.ex rfl rfl rfl (Ex.ext rfl rfl) ?_
    refine WL.ex rfl rfl rfl (Ex.ext rfl rfl) ?_
    refine WL.ac0 rfl rfl (Ac.stA M22 ty31 rfl rfl rfl (int4_len (by first | assumption | exact int4_0)) (intV_one _) (i := 1) rfl (by first | (rw [int4_len (by first | assumption | exact int4_0), int4_len (by first | assumption | exact int4_0)]; decide) | (rw [int4_len (by first | assumption | exact int4_0)]; decide) | rw [int4_len (by first | assumption | exact int4_0)])) ?_; rintro v25 w25 ⟨K25, M25⟩
    try dsimp only [List.set] at M25
    rw [splice_all _ _ (by first | rw [int4_len (by first | assumption | exact int4_0), int4_len (by first | assumption | exact int4_0)] | rw [int4_len (by first | assumption | exact int4_0)])] at M25
    refine WL.ex rfl rfl rfl (Ex.asg rfl) ?_
    refine WL.nil ?_
    refine WX.next (?_)
    refine WC.ret ?_
    refine WX.retn rfl (.cell rfl (run_loadVarA ty31 (int4_len (by first | assumption | exact int4_0)) (M25.rdw (i := 1) rfl)) (.tmp rfl .nil)) rfl ?_
    exact ⟨rfl, M25.keep⟩

end Go.Proofs.Ytjbgdkdoniacgaa
