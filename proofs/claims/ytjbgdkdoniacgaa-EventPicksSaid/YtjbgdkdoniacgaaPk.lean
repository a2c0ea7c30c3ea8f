/- Walks, written by gen.py off the translation's own print: each says what the Go function comes to. -/
import Derived.Test.YtjbgdkdoniacgaaPj
import Derived.Test.YtjbgdkdoniacgaaPf
set_option linter.unusedVariables false
set_option linter.unusedSimpArgs false
namespace Go.Proofs.Ytjbgdkdoniacgaa
open Go.Sx Go.RowKit
attribute [local irreducible] Ac Ex WL WC WX WP Gives

/- sponsion/sponsionlaw09.EventPicks -/
theorem eventPicks_walk (w : World) (A : Option Addr) (c : Nat) (es : List Ev) (id : List UInt8) (B : Option Addr) (d : Nat) (ks : List UInt8) (hr : RdE w A es) (hI : id.length = 32) (hk : Rd w B (bytesV ks)) :
    Gives Try.prog 3 #[.slice A es.length c, .agg (bytesV id).toArray, .slice B ks.length d] w fun u w1 => u = .bool true ∧ Keep nof w w1 := by
  have M0 := Mem.start w nof
  have hok := hr.ok
  have hgo : ∀ t ∈ dl (outP id ks) es, EvOk t := fun t ht => hok t (List.mem_filter.1 ht).1
  have hgl := dl_len (outP id ks) es
  have hso := sumI_ok (vsum ((dl (outP id ks) es).map (·.am)))
  refine Gives.enter (n := 108) Try.func3 rfl Try.ntmps3 rfl (env := [(0, .slice A es.length c), (1, .agg (bytesV id).toArray), (2, .slice B ks.length d)]) rfl ?_
  refine WC.seq ?_
  refine WC.region ?_
  refine WL.ac rfl rfl rfl (Ac.box M0 (l := bytesV id) rfl rfl) ?_; rintro v1 w1 ⟨gi, rfl, hg1, K1, M1⟩
  refine WL.ex rfl rfl rfl (Ex.asg rfl) ?_
  refine WL.nil ?_
  refine WX.next (?_)
  refine WC.seq ?_
  refine WC.seq ?_
  refine WC.region ?_
  refine WL.ac rfl rfl rfl (Ac.call rfl Try.func4 nm4 rfl (lives09_ok w1)) ?_; rintro v3 w3 ⟨rfl, K3⟩
  have M3 := M1.step K3
  refine WL.ex rfl rfl rfl (Ex.not rfl) ?_
  refine WL.ex rfl rfl rfl (Ex.mv rfl) ?_
  refine WL.yes rfl rfl rfl rfl ?_
  refine WL.ex rfl rfl rfl (Ex.mv rfl) ?_
  refine WL.yes rfl rfl rfl rfl ?_
  refine WL.ex rfl rfl rfl (Ex.len Try.underlying22 rfl) ?_
  refine WL.yes rfl rfl rfl rfl ?_
  refine WL.ex rfl rfl rfl (Ex.gtr rfl rfl) ?_
  refine WL.ex rfl rfl rfl (Ex.pickF rfl rfl) ?_
  refine WL.ex rfl rfl rfl (Ex.mv rfl) ?_
  by_cases hgt : (20 : Int) < es.length
  · rw [decide_eq_true hgt]
    refine WL.no rfl rfl rfl rfl rfl rfl ?_
    refine WL.no rfl rfl rfl rfl rfl rfl ?_
    refine WL.no rfl rfl rfl rfl rfl rfl ?_
    refine WL.ex rfl rfl rfl (Ex.pickT rfl rfl) ?_
    refine WL.nil ?_
    refine WX.next (?_)
    refine WC.yes rfl ?_
    refine WC.seq ?_
    refine WC.region ?_
    refine WL.ac rfl rfl rfl (Ac.call rfl Try.func4 nm4 rfl (lives09_ok w3)) ?_; rintro v12 w12 ⟨rfl, K12⟩
    have M12 := M3.step K12
    refine WL.ex rfl rfl rfl (Ex.asg rfl) ?_
    refine WL.nil ?_
    refine WX.next (?_)
    refine WC.ret ?_
    refine WX.ret_then (?_)
    refine WX.ret1 rfl rfl ?_
    exact ⟨rfl, M12.keep⟩
  · rw [decide_eq_false hgt]
    refine WL.yes rfl rfl rfl rfl ?_
    refine WL.ex rfl rfl rfl (Ex.mv rfl) ?_
    refine WL.yes rfl rfl rfl rfl ?_
    refine WL.ex rfl rfl rfl (Ex.len Try.underlying25 rfl) ?_
    refine WL.yes rfl rfl rfl rfl ?_
    refine WL.ex rfl rfl rfl (Ex.gtr rfl rfl) ?_
    refine WL.ex rfl rfl rfl (Ex.pickF rfl rfl) ?_
    refine WL.nil ?_
    refine WX.next (?_)
    refine WC.cond_dec rfl (fun hc30 => ?_) (fun hc30 => ?_)
    · skip
      refine WC.seq ?_
      refine WC.region ?_
      refine WL.ac rfl rfl rfl (Ac.call rfl Try.func4 nm4 rfl (lives09_ok w3)) ?_; rintro v18 w18 ⟨rfl, K18⟩
      have M18 := M3.step K18
      refine WL.ex rfl rfl rfl (Ex.asg rfl) ?_
      refine WL.nil ?_
      refine WX.next (?_)
      refine WC.ret ?_
      refine WX.ret_then (?_)
      refine WX.ret1 rfl rfl ?_
      exact ⟨rfl, M18.keep⟩
    · have hn : es.length ≤ 20 ∧ ks.length ≤ 20 := by omega
      refine WC.skip ?_
      refine WX.next (?_)
      refine WC.seq ?_
      refine WC.region ?_
      refine WL.ex rfl rfl rfl (Ex.mv rfl) ?_
      refine WL.ac rfl rfl rfl (Ac.call rfl Try.func5 nm5 rfl (refs_ok w3 _ _ es (hr.keep M3.keep) (by omega))) ?_; rintro v21 w21 N21
      have M21 := M3.new N21
      obtain ⟨Aq, cq, rfl⟩ := own_slice (M21.get (i := 0) rfl)
      refine WL.ex rfl rfl rfl (Ex.asg rfl) ?_
      refine WL.nil ?_
      refine WX.next (?_)
      refine WC.seq ?_
      refine WC.region ?_
      refine WL.ex rfl rfl rfl (Ex.asg rfl) ?_
      refine WL.nil ?_
      refine WX.next (?_)
      refine WC.seq ?_
      refine WC.seq ?_
      refine WC.region ?_
      refine WL.ex rfl rfl rfl (Ex.mv rfl) ?_
      refine WL.ex rfl rfl rfl (Ex.len Try.underlying27 rfl) ?_
      refine WL.ex rfl rfl rfl (Ex.mv rfl) ?_
      refine WL.nil ?_
      refine WX.next (?_)
      refine WC.block ?_
      refine WC.loop (σ := Nat × Value) (fun s => [(0, .slice A es.length c), (2, .slice B ks.length d), (4, .pointer (some ⟨gi, 0, none⟩)), (7, .slice Aq es.length cq), (8, s.2), (34, .slice Aq es.length cq), (35, .int .i64 (es.length : Int)), (36, .int .i64 (s.1 : Int))]) (fun s wr => s.1 ≤ es.length ∧ Mem w wr nof [row s.2 34 47 (dl (outP id ks) (es.take s.1)).length ((dl (outP id ks) (es.take s.1)).flatMap evC), row (.slice Aq es.length cq) 34 47 es.length (es.flatMap evC), blk gi (bytesV id) 24]) (fun s => es.length - s.1) (((0, .slice none 0 0) : Nat × Value)) ?_ (.cons rfl (.cons rfl (.cons rfl (.cons rfl (.cons rfl (.cons rfl (.cons rfl (.cons rfl (.nil))))))))) ?_
      · exact ⟨by simp, (M21.free (r := row (.slice none 0 0) 34 47 0 []) (row_nil _ _ _) rfl)⟩
      rintro ⟨i, v⟩ w27 ⟨hi, M27⟩
      dsimp only at hi M27
      refine WC.sub (env' := [(0, .slice A es.length c), (2, .slice B ks.length d), (4, .pointer (some ⟨gi, 0, none⟩)), (7, .slice Aq es.length cq), (8, v), (34, .slice Aq es.length cq), (35, .int .i64 (es.length : Int)), (36, .int .i64 (i : Int))]) (.cons rfl (.cons rfl (.cons rfl (.cons rfl (.cons rfl (.cons rfl (.cons rfl (.cons rfl (.nil))))))))) ?_
      refine WC.seq ?_
      refine WC.region ?_
      refine WL.ex rfl rfl rfl (Ex.lss rfl rfl) ?_
      refine WL.nil ?_
      refine WX.next (?_)
      refine WC.seq ?_
      refine WC.cond_dec rfl (fun hc37 => ?_) (fun hc37 => ?_)
      · obtain ⟨p, hpi⟩ : ∃ p, es[i]? = some p := ⟨_, List.getElem?_eq_getElem (by omega)⟩
        have hpm : p ∈ es := List.mem_of_getElem? hpi
        have hpo := hok p hpm
        have hwl := dl_len (outP id ks) (es.take i)
        rw [List.length_take] at hwl
        obtain ⟨gq, rfl⟩ := own_some (M27.get (i := 1) rfl) (by omega)
        refine WC.skip ?_
        refine WX.next (?_)
        refine WC.seq ?_
        refine WC.block ?_
        refine WC.seq ?_
        refine WC.region ?_
        refine WL.ex rfl rfl rfl (Ex.ia Try.underlying27 sz34 rfl rfl ⟨by omega, by omega⟩) ?_
        refine WL.ex rfl rfl rfl (Ex.loadA ty34 rfl (l := evC p) (ev_len hpo) (Rd.flat (M27.rdr (i := 1) rfl) (i := (i : Int).toNat) (fun t ht => ev_len (hok t ht)) (by simpa using hpi))) ?_
        refine WL.ac rfl rfl rfl (Ac.alloc M27 (l := evC ev0) (by kernel_rfl)) ?_; rintro v31 w31 ⟨gx, rfl, hg31, K31, M31⟩
        refine WL.ac0 rfl rfl (Ac.stA M31 ty34 rfl rfl (vs := evC p) rfl (ev_len hpo) ev_one (i := 0) rfl (by rw [ev_len hpo, ev_len ev0_ok]; decide)) ?_; rintro v32 w32 ⟨K32, M32⟩
        try dsimp only [List.set] at M32
        rw [splice_all _ _ (by rw [ev_len hpo, ev_len ev0_ok])] at M32
        refine WL.nil ?_
        refine WX.next (?_)
        refine WC.seq ?_
        refine WC.region ?_
        refine WL.ex rfl rfl rfl (Ex.asg rfl) ?_
        refine WL.nil ?_
        refine WX.next (?_)
        refine WC.seq ?_
        refine WC.seq ?_
        refine WC.region ?_
        refine WL.ex rfl rfl rfl (Ex.mv rfl) ?_
        refine WL.ex rfl rfl rfl (Ex.len Try.underlying25 rfl) ?_
        refine WL.ex rfl rfl rfl (Ex.mv rfl) ?_
        refine WL.nil ?_
        refine WX.next (?_)
        refine WC.block ?_
        refine WC.loop (σ := Nat × Bool) (fun s => [(0, .slice A es.length c), (2, .slice B ks.length d), (4, .pointer (some ⟨gi, 0, none⟩)), (7, .slice (some ⟨gq, 0, none⟩) es.length cq), (8, v), (10, .pointer (some ⟨gx, 0, none⟩)), (11, .bool s.2), (34, .slice (some ⟨gq, 0, none⟩) es.length cq), (35, .int .i64 (es.length : Int)), (36, .int .i64 (i : Int)), (40, .slice B ks.length d), (41, .int .i64 (ks.length : Int)), (42, .int .i64 (s.1 : Int))]) (fun s wr => s.1 ≤ ks.length ∧ s.2 = decide (p.k ∈ (ks.take s.1).map UInt8.toNat) ∧ Mem w wr nof [blk gx (evC p) 34, row v 34 47 (dl (outP id ks) (es.take i)).length ((dl (outP id ks) (es.take i)).flatMap evC), row (.slice (some ⟨gq, 0, none⟩) es.length cq) 34 47 es.length (es.flatMap evC), blk gi (bytesV id) 24]) (fun s => ks.length - s.1) (((0, false) : Nat × Bool)) ?_ (.cons rfl (.cons rfl (.cons rfl (.cons rfl (.cons rfl (.cons rfl (.cons rfl (.cons rfl (.cons rfl (.cons rfl (.cons rfl (.cons rfl (.cons rfl (.nil)))))))))))))) ?_
        · exact ⟨by simp, by simp, M32⟩
        rintro ⟨j, b⟩ w37 ⟨hj, hb, M37⟩
        dsimp only at hj hb M37
        refine WC.sub (env' := [(0, .slice A es.length c), (2, .slice B ks.length d), (4, .pointer (some ⟨gi, 0, none⟩)), (7, .slice (some ⟨gq, 0, none⟩) es.length cq), (8, v), (10, .pointer (some ⟨gx, 0, none⟩)), (11, .bool b), (34, .slice (some ⟨gq, 0, none⟩) es.length cq), (35, .int .i64 (es.length : Int)), (36, .int .i64 (i : Int)), (40, .slice B ks.length d), (41, .int .i64 (ks.length : Int)), (42, .int .i64 (j : Int))]) (.cons rfl (.cons rfl (.cons rfl (.cons rfl (.cons rfl (.cons rfl (.cons rfl (.cons rfl (.cons rfl (.cons rfl (.cons rfl (.cons rfl (.cons rfl (.nil)))))))))))))) ?_
        refine WC.seq ?_
        refine WC.region ?_
        refine WL.ex rfl rfl rfl (Ex.lss rfl rfl) ?_
        refine WL.nil ?_
        refine WX.next (?_)
        refine WC.seq ?_
        refine WC.cond_dec rfl (fun hc43 => ?_) (fun hc43 => ?_)
        · obtain ⟨c0, hcj⟩ : ∃ c0, ks[j]? = some c0 := ⟨_, List.getElem?_eq_getElem (by omega)⟩
          obtain ⟨bB, oB, hB, _⟩ := hk.plain (by rw [bytesV_length]; omega)
          subst hB
          refine WC.skip ?_
          refine WX.next (?_)
          refine WC.seq ?_
          refine WC.block ?_
          refine WC.seq ?_
          refine WC.region ?_
          refine WL.ex rfl rfl rfl (Ex.ia Try.underlying25 sz5 rfl rfl ⟨by omega, by omega⟩) ?_
          refine WL.ex rfl rfl rfl (Ex.load ty5 rfl (by have hq := (M37.rd hk).at1 (bytesV_get hcj); simpa using hq)) ?_
          refine WL.ex rfl rfl rfl (Ex.asg rfl) ?_
          refine WL.nil ?_
          refine WX.next (?_)
          refine WC.region ?_
          refine WL.ex rfl rfl rfl (Ex.mv rfl) ?_
          refine WL.ex rfl rfl rfl (Ex.mv rfl) ?_
          rcases Bool.eq_false_or_eq_true b with hbt | hbt
          · subst hbt
            refine WL.no rfl rfl rfl rfl rfl rfl ?_
            refine WL.no rfl rfl rfl rfl rfl rfl ?_
            refine WL.no rfl rfl rfl rfl rfl rfl ?_
            refine WL.no rfl rfl rfl rfl rfl rfl ?_
            refine WL.ex rfl rfl rfl (Ex.pickT rfl rfl) ?_
            refine WL.ex rfl rfl rfl (Ex.asg rfl) ?_
            refine WL.nil ?_
            refine WX.normal_block (WX.next (?_))
            refine WC.region ?_
            refine WL.ex rfl rfl rfl (Ex.add rfl rfl (i64w _ (by omega) (by omega))) ?_
            refine WL.ex rfl rfl rfl (Ex.mv rfl) ?_
            refine WL.nil ?_
            refine WX.again (((j + 1, true) : Nat × Bool)) ?_ ?_ (.cons rfl (.cons rfl (.cons rfl (.cons rfl (.cons rfl (.cons rfl (.cons rfl (.cons rfl (.cons rfl (.cons rfl (.cons rfl (.cons rfl (.cons rfl (.nil))))))))))))))
            · dsimp only; omega
            · first | exact ⟨by dsimp only; omega, hasT hcj hb, M37⟩ | exact ⟨by dsimp only; omega, hasF hcj hb, M37⟩
          · subst hbt
            refine WL.yes rfl rfl rfl rfl ?_
            refine WL.ex rfl rfl rfl (Ex.mv rfl) ?_
            refine WL.yes rfl rfl rfl rfl ?_
            refine WL.ex rfl rfl rfl (Ex.fa fl34_0 rfl) ?_
            refine WL.yes rfl rfl rfl rfl ?_
            refine WL.ex rfl rfl rfl (Ex.load ty5 rfl (M37.cell (i := 0) (v := .int .u8 (p.k : Int)) rfl rfl)) ?_
            refine WL.yes rfl rfl rfl rfl ?_
            refine WL.ex rfl rfl rfl (Ex.eqI rfl rfl) ?_
            refine WL.ex rfl rfl rfl (Ex.pickF rfl rfl) ?_
            refine WL.ex rfl rfl rfl (Ex.asg rfl) ?_
            refine WL.nil ?_
            refine WX.normal_block (WX.next (?_))
            refine WC.region ?_
            refine WL.ex rfl rfl rfl (Ex.add rfl rfl (i64w _ (by omega) (by omega))) ?_
            refine WL.ex rfl rfl rfl (Ex.mv rfl) ?_
            refine WL.nil ?_
            refine WX.again (((j + 1, decide ((c0.toNat : Int) = (p.k : Int))) : Nat × Bool)) ?_ ?_ (.cons rfl (.cons rfl (.cons rfl (.cons rfl (.cons rfl (.cons rfl (.cons rfl (.cons rfl (.cons rfl (.cons rfl (.cons rfl (.cons rfl (.cons rfl (.nil))))))))))))))
            · dsimp only; omega
            · first | exact ⟨by dsimp only; omega, hasT hcj hb, M37⟩ | exact ⟨by dsimp only; omega, hasF hcj hb, M37⟩
        · obtain rfl : j = ks.length := by omega
          rw [List.take_length] at hb
          refine WC.exit ?_
          refine WX.exit_then (WX.exit_then (WX.exit_block (WX.next (?_))))
          refine WC.seq ?_
          refine WC.region ?_
          refine WL.ex rfl rfl rfl (Ex.mv rfl) ?_
          refine WL.ex rfl rfl rfl (Ex.mv rfl) ?_
          rcases Bool.eq_false_or_eq_true b with hbt | hbt
          · subst hbt
            refine WL.yes rfl rfl rfl rfl ?_
            refine WL.ex rfl rfl rfl (Ex.fa fl34_2 rfl) ?_
            refine WL.yes rfl rfl rfl rfl ?_
            refine WL.ex rfl rfl rfl (Ex.loadA ty24 rfl (l := bytesV p.id) (by simpa using hpo.id) (M37.rdt (i := 0) rfl (ev_2 hpo))) ?_
            refine WL.yes rfl rfl rfl rfl ?_
            refine WL.ex rfl rfl rfl (Ex.loadA ty24 rfl (l := bytesV id) (by simpa using hI) (M37.rdw (i := 3) rfl)) ?_
            refine WL.yes rfl rfl rfl rfl ?_
            refine WL.ex rfl rfl rfl (Ex.eqA rfl rfl (eqHash w hpo.id hI)) ?_
            by_cases hpid : p.id = id
            · rw [decide_eq_true hpid]
              have hpk : outP id ks p = false := by rw [outP, ← hb, decide_eq_true hpid]; rfl
              refine WL.ex rfl rfl rfl (Ex.pickT rfl rfl) ?_
              refine WL.nil ?_
              refine WX.next (?_)
              refine WC.yes rfl ?_
              refine WC.region ?_
              refine WL.ex rfl rfl rfl (Ex.mv rfl) ?_
              refine WL.ex rfl rfl rfl (Ex.loadA ty34 rfl (l := evC p) (ev_len hpo) (M37.rdw (i := 0) rfl)) ?_
              refine WL.ac rfl rfl rfl (Ac.bs M37 (parts := [(0, .tmp 62)]) rfl rfl (LitS.agg1 el27 rfl (ev_len hpo) (by decide))) ?_; rintro v65 w65 ⟨gb, rfl, hg65, K65, M65⟩
              refine WL.ac rfl rfl rfl (Ac.app M65 el27 rfl rfl (i := 2) rfl (by rw [ev_len hpo]) (M65.rdw (i := 0) rfl) ev_one (by omega) (by unfold maxLen; omega)) ?_; rintro v66 w66 ⟨K66, M66⟩
              try dsimp only [List.set] at M66
              rw [show (dl (outP id ks) (es.take i)).flatMap evC ++ evC p = (dl (outP id ks) (es.take (i + 1))).flatMap evC by rw [dl_yes hpi hpk]; simp, show (dl (outP id ks) (es.take i)).length + 1 = (dl (outP id ks) (es.take (i + 1))).length by rw [dl_yes hpi hpk]; simp] at M66
              refine WL.ex rfl rfl rfl (Ex.asg rfl) ?_
              refine WL.nil ?_
              refine WX.normal_block (WX.next (?_))
              refine WC.region ?_
              refine WL.ex rfl rfl rfl (Ex.add rfl rfl (i64w _ (by omega) (by omega))) ?_
              refine WL.ex rfl rfl rfl (Ex.mv rfl) ?_
              refine WL.nil ?_
              refine WX.again (((i + 1, v66) : Nat × Value)) ?_ ?_ (.cons rfl (.cons rfl (.cons rfl (.cons rfl (.cons rfl (.cons rfl (.cons rfl (.cons rfl (.nil)))))))))
              · dsimp only; omega
              · first | exact ⟨by dsimp only; omega, (Mem.sub M66 (.cons _ (.cons _ (.refl _))))⟩ | (refine ⟨by dsimp only; omega, ?_⟩; dsimp only; rw [dl_no hpi hpk]; exact (Mem.sub M66 (.cons _ (.cons _ (.refl _)))))
            · rw [decide_eq_false hpid]
              have hpk : outP id ks p = true := by rw [outP, decide_eq_false hpid]; rfl
              refine WL.ex rfl rfl rfl (Ex.pickT rfl rfl) ?_
              refine WL.nil ?_
              refine WX.next (?_)
              refine WC.no rfl ?_
              refine WC.skip ?_
              refine WX.normal_block (WX.next (?_))
              refine WC.region ?_
              refine WL.ex rfl rfl rfl (Ex.add rfl rfl (i64w _ (by omega) (by omega))) ?_
              refine WL.ex rfl rfl rfl (Ex.mv rfl) ?_
              refine WL.nil ?_
              refine WX.again (((i + 1, v) : Nat × Value)) ?_ ?_ (.cons rfl (.cons rfl (.cons rfl (.cons rfl (.cons rfl (.cons rfl (.cons rfl (.cons rfl (.nil)))))))))
              · dsimp only; omega
              · first | exact ⟨by dsimp only; omega, (Mem.sub M37 (.cons _ (.refl _)))⟩ | (refine ⟨by dsimp only; omega, ?_⟩; dsimp only; rw [dl_no hpi hpk]; exact (Mem.sub M37 (.cons _ (.refl _))))
          · subst hbt
            have hpk : outP id ks p = true := by rw [outP, ← hb]; simp
            refine WL.no rfl rfl rfl rfl rfl rfl ?_
            refine WL.no rfl rfl rfl rfl rfl rfl ?_
            refine WL.no rfl rfl rfl rfl rfl rfl ?_
            refine WL.no rfl rfl rfl rfl rfl rfl ?_
            refine WL.ex rfl rfl rfl (Ex.pickF rfl rfl) ?_
            refine WL.nil ?_
            refine WX.next (?_)
            refine WC.no rfl ?_
            refine WC.skip ?_
            refine WX.normal_block (WX.next (?_))
            refine WC.region ?_
            refine WL.ex rfl rfl rfl (Ex.add rfl rfl (i64w _ (by omega) (by omega))) ?_
            refine WL.ex rfl rfl rfl (Ex.mv rfl) ?_
            refine WL.nil ?_
            refine WX.again (((i + 1, v) : Nat × Value)) ?_ ?_ (.cons rfl (.cons rfl (.cons rfl (.cons rfl (.cons rfl (.cons rfl (.cons rfl (.cons rfl (.nil)))))))))
            · dsimp only; omega
            · first | exact ⟨by dsimp only; omega, (Mem.sub M37 (.cons _ (.refl _)))⟩ | (refine ⟨by dsimp only; omega, ?_⟩; dsimp only; rw [dl_no hpi hpk]; exact (Mem.sub M37 (.cons _ (.refl _))))
      · obtain rfl : i = es.length := by omega
        rw [List.take_length] at M27
        refine WC.exit ?_
        refine WX.exit_then (WX.exit_then (WX.exit_block (WX.next (?_))))
        refine WC.seq ?_
        refine WC.region ?_
        refine WL.ex rfl rfl rfl (Ex.mv rfl) ?_
        refine WL.ex rfl rfl rfl (Ex.loadA ty24 rfl (l := bytesV id) (by simpa using hI) (M27.rdw (i := 2) rfl)) ?_
        refine WL.ex rfl rfl rfl (Ex.mv rfl) ?_
        refine WL.ac rfl rfl rfl (Ac.call rfl Try.func6 nm6 rfl (eOf_ok w27 A c es id B d ks (hr.keep M27.keep) (by omega) hI (M27.rd hk) (by omega))) ?_; rintro v79 w79 N79
        have M79 := M27.new N79
        obtain ⟨Ag, cg, rfl⟩ := own_slice (M79.get (i := 0) rfl)
        refine WL.ex rfl rfl rfl (Ex.asg rfl) ?_
        refine WL.nil ?_
        refine WX.next (?_)
        refine WC.seq ?_
        refine WC.seq ?_
        refine WC.region ?_
        obtain ⟨Aw, cw, rfl⟩ := own_slice (M79.get (i := 1) rfl)
        refine WL.ex rfl rfl rfl (Ex.mv rfl) ?_
        refine WL.ex rfl rfl rfl (Ex.mv rfl) ?_
        refine WL.ac rfl rfl rfl (Ac.call rfl Try.func7 nm7 rfl (same_ok w79 _ _ _ _ _ _ ⟨M79.rdr (i := 0) rfl, hgo⟩ ⟨M79.rdr (i := 1) rfl, hgo⟩ (by omega) (by omega))) ?_; rintro v83 w83 ⟨rfl, K83⟩
        rw [decide_eq_true rfl]
        have M83 := M79.step K83
        refine WL.ex rfl rfl rfl (Ex.not rfl) ?_
        refine WL.ex rfl rfl rfl (Ex.mv rfl) ?_
        refine WL.yes rfl rfl rfl rfl ?_
        refine WL.ex rfl rfl rfl (Ex.mv rfl) ?_
        refine WL.yes rfl rfl rfl rfl ?_
        refine WL.ex rfl rfl rfl (Ex.mv rfl) ?_
        refine WL.yes rfl rfl rfl rfl ?_
        refine WL.ac rfl rfl rfl (Ac.call rfl Try.func7 nm7 rfl (same_ok w83 _ _ _ _ _ _ ⟨M83.rd hr.row, hok⟩ ⟨M83.rdr (i := 2) rfl, hok⟩ (by omega) (by omega))) ?_; rintro v88 w88 ⟨rfl, K88⟩
        rw [decide_eq_true rfl]
        have M88 := M83.step K88
        refine WL.yes rfl rfl rfl rfl ?_
        refine WL.ex rfl rfl rfl (Ex.not rfl) ?_
        refine WL.ex rfl rfl rfl (Ex.pickF rfl rfl) ?_
        refine WL.nil ?_
        refine WX.next (?_)
        refine WC.no rfl ?_
        refine WC.skip ?_
        refine WX.next (?_)
        refine WC.seq ?_
        refine WC.region ?_
        refine WL.ex rfl rfl rfl (Ex.mv rfl) ?_
        refine WL.ac rfl rfl rfl (Ac.call rfl Try.func8 nm8 rfl (eTot_ok w88 Ag cg (dl (outP id ks) es) ⟨M88.rdr (i := 0) rfl, hgo⟩ (by omega))) ?_; rintro v92 w92 ⟨rfl, K92⟩
        have M92 := M88.step K92
        refine WL.ex rfl rfl rfl (Ex.mv rfl) ?_
        refine WL.ex rfl rfl rfl (Ex.ext rfl rfl) ?_
        refine WL.ex rfl rfl rfl (Ex.ext rfl rfl) ?_
        refine WL.ac rfl rfl rfl (Ac.alloc M92 (l := intV [0, 0, 0, 0]) (by kernel_rfl)) ?_; rintro v96 w96 ⟨gn, rfl, hg96, K96, M96⟩
        refine WL.ac0 rfl rfl (Ac.stA M96 ty31 rfl rfl rfl (int4_len (by first | assumption | exact int4_0)) (intV_one _) (i := 0) rfl (by first | (rw [int4_len (by first | assumption | exact int4_0), int4_len (by first | assumption | exact int4_0)]; decide) | (rw [int4_len (by first | assumption | exact int4_0)]; decide) | rw [int4_len (by first | assumption | exact int4_0)])) ?_; rintro v97 w97 ⟨K97, M97⟩
        try dsimp only [List.set] at M97
        rw [splice_all _ _ (by first | rw [int4_len (by first | assumption | exact int4_0), int4_len (by first | assumption | exact int4_0)] | rw [int4_len (by first | assumption | exact int4_0)])] at M97
        refine WL.ex rfl rfl rfl (Ex.asg rfl) ?_
        refine WL.nil ?_
        refine WX.next (?_)
        refine WC.seq ?_
        refine WC.region ?_
        refine WL.ex rfl rfl rfl (Ex.mv rfl) ?_
        refine WL.ac rfl rfl rfl (Ac.call rfl Try.func9 nm9 rfl (rTot_ok w97 Aw cw (dl (outP id ks) es) ⟨M97.rdr (i := 2) rfl, hgo⟩ (by omega))) ?_; rintro v100 w100 ⟨rfl, K100⟩
        have M100 := M97.step K100
        refine WL.ex rfl rfl rfl (Ex.mv rfl) ?_
        refine WL.ex rfl rfl rfl (Ex.ext rfl rfl) ?_
        refine WL.ex rfl rfl rfl (Ex.ext rfl rfl) ?_
        refine WL.ac rfl rfl rfl (Ac.alloc M100 (l := intV [0, 0, 0, 0]) (by kernel_rfl)) ?_; rintro v104 w104 ⟨gm, rfl, hg104, K104, M104⟩
        refine WL.ac0 rfl rfl (Ac.stA M104 ty31 rfl rfl rfl (int4_len (by first | assumption | exact int4_0)) (intV_one _) (i := 0) rfl (by first | (rw [int4_len (by first | assumption | exact int4_0), int4_len (by first | assumption | exact int4_0)]; decide) | (rw [int4_len (by first | assumption | exact int4_0)]; decide) | rw [int4_len (by first | assumption | exact int4_0)])) ?_; rintro v105 w105 ⟨K105, M105⟩
        try dsimp only [List.set] at M105
        rw [splice_all _ _ (by first | rw [int4_len (by first | assumption | exact int4_0), int4_len (by first | assumption | exact int4_0)] | rw [int4_len (by first | assumption | exact int4_0)])] at M105
        refine WL.ex rfl rfl rfl (Ex.asg rfl) ?_
        refine WL.nil ?_
        refine WX.next (?_)
        refine WC.seq ?_
        refine WC.region ?_
        refine WL.ex rfl rfl rfl (Ex.loadA ty31 rfl (int4_len (by first | assumption | exact int4_0)) (M105.rdw (i := 1) rfl)) ?_
        refine WL.ex rfl rfl rfl (Ex.loadA ty31 rfl (int4_len (by first | assumption | exact int4_0)) (M105.rdw (i := 0) rfl)) ?_
        refine WL.ex rfl rfl rfl (Ex.eqA rfl rfl (eqInt w hso hso)) ?_
        rw [decide_eq_true rfl]
        refine WL.ex rfl rfl rfl (Ex.mv rfl) ?_
        refine WL.yes rfl rfl rfl rfl ?_
        refine WL.ex rfl rfl rfl (Ex.mv rfl) ?_
        refine WL.yes rfl rfl rfl rfl ?_
        refine WL.ex rfl rfl rfl (Ex.mv rfl) ?_
        by_cases hov : vsum ((dl (outP id ks) es).map (·.am)) < M256
        · rw [decide_eq_true hov]
          have hs2 : (sumI (vsum ((dl (outP id ks) es).map (·.am)))).2 = 0 := by rw [sumI_0 hov]
          refine WL.yes rfl rfl rfl rfl ?_
          refine WL.ex rfl rfl rfl (Ex.mv rfl) ?_
          refine WL.yes rfl rfl rfl rfl ?_
          refine WL.ex rfl rfl rfl (Ex.eqI rfl rfl) ?_
          rw [decide_eq_true hs2]
          refine WL.yes rfl rfl rfl rfl ?_
          refine WL.ex rfl rfl rfl (Ex.pickT rfl rfl) ?_
          refine WL.yes rfl rfl rfl rfl ?_
          refine WL.ex rfl rfl rfl (Ex.mv rfl) ?_
          refine WL.no rfl rfl rfl rfl rfl rfl ?_
          refine WL.no rfl rfl rfl rfl rfl rfl ?_
          refine WL.no rfl rfl rfl rfl rfl rfl ?_
          refine WL.no rfl rfl rfl rfl rfl rfl ?_
          refine WL.no rfl rfl rfl rfl rfl rfl ?_
          refine WL.no rfl rfl rfl rfl rfl rfl ?_
          refine WL.yes rfl rfl rfl rfl ?_
          refine WL.ex rfl rfl rfl (Ex.pickT rfl rfl) ?_
          refine WL.ex rfl rfl rfl (Ex.pickT rfl rfl) ?_
          refine WL.ex rfl rfl rfl (Ex.asg rfl) ?_
          refine WL.nil ?_
          refine WX.next (?_)
          refine WC.ret ?_
          refine WX.ret1 rfl rfl ?_
          exact ⟨rfl, M105.keep⟩
        · rw [decide_eq_false hov]
          have hs2 : (sumI (vsum ((dl (outP id ks) es).map (·.am)))).2 = 2 := by rw [sumI_1 hov]
          refine WL.no rfl rfl rfl rfl rfl rfl ?_
          refine WL.no rfl rfl rfl rfl rfl rfl ?_
          refine WL.yes rfl rfl rfl rfl ?_
          refine WL.ex rfl rfl rfl (Ex.pickF rfl rfl) ?_
          refine WL.yes rfl rfl rfl rfl ?_
          refine WL.ex rfl rfl rfl (Ex.mv rfl) ?_
          refine WL.yes rfl rfl rfl rfl ?_
          refine WL.ex rfl rfl rfl (Ex.mv rfl) ?_
          refine WL.yes rfl rfl rfl rfl ?_
          refine WL.ex rfl rfl rfl (Ex.not rfl) ?_
          refine WL.yes rfl rfl rfl rfl ?_
          refine WL.ex rfl rfl rfl (Ex.mv rfl) ?_
          
          refine WL.yes rfl rfl rfl rfl ?_
          refine WL.ex rfl rfl rfl (Ex.mv rfl) ?_
          refine WL.yes rfl rfl rfl rfl ?_
          refine WL.ex rfl rfl rfl (Ex.eqI rfl rfl) ?_
          rw [decide_eq_true hs2]
          refine WL.yes rfl rfl rfl rfl ?_
          refine WL.ex rfl rfl rfl (Ex.pickT rfl rfl) ?_
          refine WL.yes rfl rfl rfl rfl ?_
          refine WL.ex rfl rfl rfl (Ex.pickF rfl rfl) ?_
          refine WL.ex rfl rfl rfl (Ex.pickT rfl rfl) ?_
          refine WL.ex rfl rfl rfl (Ex.asg rfl) ?_
          refine WL.nil ?_
          refine WX.next (?_)
          refine WC.ret ?_
          refine WX.ret1 rfl rfl ?_
          exact ⟨rfl, M105.keep⟩

end Go.Proofs.Ytjbgdkdoniacgaa
