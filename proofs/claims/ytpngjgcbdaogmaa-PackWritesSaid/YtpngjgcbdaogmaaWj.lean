/- Walks, written by gen.py off the translation's own print: each says what the Go function comes to. -/
import Derived.Test.YtpngjgcbdaogmaaWh
set_option linter.unusedVariables false
set_option linter.unusedSimpArgs false
namespace Go.Proofs.Ytpngjgcbdaogmaa
open Go.Sx Go.RowKit
attribute [local irreducible] Ac Ex WL WC WX WP Gives

/-- What is written for an item. -/
def itemB (t : Item) : List UInt8 :=
  if t.k % 7 = 0 then be 1 (t.x % 256) else if t.k % 7 = 1 then be 4 (t.x % 4294967296) else if t.k % 7 = 2 then be 8 t.x else if t.k % 7 = 3 then intB t.a else if t.k % 7 = 4 then t.h else if t.k % 7 = 5 then t.B.l else []
theorem itemB_len {t : Item} (h : ItemOk t) (hb : t.B.l.length ≤ 100) : (itemB t).length ≤ 100 := by
  have := h.h
  unfold itemB
  repeat' split
  all_goals (simp; try omega)
theorem items_len {its : List Item} (h : ∀ t ∈ its, ItemOk t) (hf : fewI its) (i : Nat) : ((its.take i).flatMap itemB).length ≤ 100 * i := by
  have key : ∀ l : List Item, (∀ t ∈ l, ItemOk t ∧ t.B.l.length ≤ 100) → (l.flatMap itemB).length ≤ 100 * l.length := by
    intro l
    induction l with
    | nil => simp
    | cons a r ih =>
      intro hl
      have h1 := ih fun t ht => hl t (by simp [ht])
      have h2 := hl a (by simp)
      have h3 := itemB_len h2.1 h2.2
      simp only [List.flatMap_cons, List.length_append, List.length_cons]
      omega
  have := key (its.take i) fun t ht => ⟨h t (List.mem_of_mem_take ht), hf.1 t (List.mem_of_mem_take ht)⟩
  have h2 : (its.take i).length ≤ i := by simp; omega
  omega
theorem items_snoc {its : List Item} {i : Nat} {p : Item} (h : its[i]? = some p) : (its.take (i + 1)).flatMap itemB = (its.take i).flatMap itemB ++ itemB p := by rw [take_snoc h]; simp

/- sponsion/sponsionlaw04.PackWrites -/
theorem packWrites_walk (w : World) (A : Option Addr) (c : Nat) (its : List Item) (hr : RdI w A its) (hb : its.length ≤ 9223372036854775807) :
    Gives Try.prog 4 #[.slice A its.length c] w fun u w1 => u = .bool true ∧ Keep nof w w1 := by
  have M0 := (Mem.start w nof).free (r := row (.slice none 0 0) 5 1 ([] : List UInt8).length (bytesV [])) (row_nil _ _ _) rfl
  refine Gives.enter (n := 125) Try.func4 rfl Try.ntmps4 rfl (env := [(0, .slice A its.length c)]) rfl ?_
  refine WC.seq ?_
  refine WC.region ?_
  refine WL.ex rfl rfl rfl (Ex.asg rfl) ?_
  refine WL.nil ?_
  refine WX.next (?_)
  refine WC.seq ?_
  refine WC.seq ?_
  refine WC.region ?_
  refine WL.ac rfl rfl rfl (Ac.call rfl Try.func16 nm16 rfl (lives04_ok w)) ?_; rintro v2 w2 ⟨rfl, K2⟩
  have M2 := M0.step K2
  refine WL.ex rfl rfl rfl (Ex.not rfl) ?_
  refine WL.ex rfl rfl rfl (Ex.mv rfl) ?_
  refine WL.yes rfl rfl rfl rfl ?_
  refine WL.ex rfl rfl rfl (Ex.mv rfl) ?_
  refine WL.yes rfl rfl rfl rfl ?_
  refine WL.ac rfl rfl rfl (Ac.call rfl Try.func17 nm17 rfl (few04_ok w2 _ _ _ (hr.keep M2.keep) (by first | (simp; done) | (simp; omega) | omega))) ?_; rintro v6 w6 ⟨rfl, K6⟩
  have M6 := M2.step K6
  by_cases hf : fewI its
  · rw [decide_eq_true hf]
    refine WL.yes rfl rfl rfl rfl ?_
    refine WL.ex rfl rfl rfl (Ex.not rfl) ?_
    refine WL.ex rfl rfl rfl (Ex.pickF rfl rfl) ?_
    refine WL.nil ?_
    refine WX.next (?_)
    refine WC.no rfl ?_
    refine WC.skip ?_
    refine WX.next (?_)
    refine WC.seq ?_
    refine WC.region ?_
    refine WL.ex rfl rfl rfl (Ex.bld bd32 (parts := []) rfl rfl rfl rfl) ?_
    refine WL.ac rfl rfl rfl (Ac.box M6 rfl rfl) ?_; rintro v10 w10 ⟨g, rfl, hg10, K10, M10⟩
    have M10 := M10.close1 (fun v => [v])
    refine WL.ex rfl rfl rfl (Ex.asg rfl) ?_
    refine WL.nil ?_
    refine WX.next (?_)
    refine WC.seq ?_
    refine WC.region ?_
    refine WL.ex rfl rfl rfl (Ex.asg rfl) ?_
    refine WL.nil ?_
    refine WX.next (?_)
    refine WC.seq ?_
    refine WC.seq ?_
    refine WC.region ?_
    refine WL.ex rfl rfl rfl (Ex.mv rfl) ?_
    refine WL.ex rfl rfl rfl (Ex.len Try.underlying28 rfl) ?_
    refine WL.ex rfl rfl rfl (Ex.mv rfl) ?_
    refine WL.nil ?_
    refine WX.next (?_)
    refine WC.block ?_
    refine WC.loop (σ := Nat × List UInt8) (fun s => [(20, .slice A its.length c), (21, .int .i64 (its.length : Int)), (22, .int .i64 (s.1 : Int)), (0, .slice A its.length c), (3, .pointer (some ⟨g, 0, none⟩)), (4, str s.2)]) (fun s wr => s.1 ≤ its.length ∧ s.2 = (its.take s.1).flatMap itemB ∧ ∃ v, Mem w wr nof [wrR g v s.2]) (fun s => its.length - s.1) (((0, []) : Nat × List UInt8)) ?_ (.cons rfl (.cons rfl (.cons rfl (.cons rfl (.cons rfl (.cons rfl (.nil))))))) ?_
    · exact ⟨by simp, rfl, _, M10⟩
    rintro ⟨i, L⟩ w16 ⟨hi, hL, v, M16⟩
    dsimp only at hi hL M16
    refine WC.sub (env' := [(20, .slice A its.length c), (21, .int .i64 (its.length : Int)), (22, .int .i64 (i : Int)), (0, .slice A its.length c), (3, .pointer (some ⟨g, 0, none⟩)), (4, str L)]) (.cons rfl (.cons rfl (.cons rfl (.cons rfl (.cons rfl (.cons rfl (.nil))))))) ?_
    refine WC.seq ?_
    refine WC.region ?_
    refine WL.ex rfl rfl rfl (Ex.lss rfl rfl) ?_
    refine WL.nil ?_
    refine WX.next (?_)
    refine WC.seq ?_
    refine WC.cond_dec rfl (fun hc23 => ?_) (fun hc23 => ?_)
    · obtain ⟨p, hpi⟩ : ∃ p, its[i]? = some p := ⟨_, List.getElem?_eq_getElem (by omega)⟩
      have hpm : p ∈ its := List.mem_of_getElem? hpi
      have hpo := hr.ok p hpm
      have hok := hpo.k
      have hox := hpo.x
      have hoa := hpo.a
      have hoh := hpo.h
      obtain ⟨b0, o0, hA⟩ := hr.plain hpi
      subst hA
      have hbl : L.length ≤ 100 * i := by rw [hL]; exact items_len hr.ok hf i
      have hb1 := hf.1 p hpm
      have hf2 := hf.2
      have hxl := itemB_len hpo hb1
      obtain ⟨X, hX⟩ : ∃ X, X = itemB p := ⟨_, rfl⟩
      rw [← hX] at hxl
      refine WC.skip ?_
      refine WX.next (?_)
      refine WC.seq ?_
      refine WC.block ?_
      refine WC.seq ?_
      refine WC.region ?_
      refine WL.ex rfl rfl rfl (Ex.ia Try.underlying28 sz39 rfl rfl ⟨by omega, by omega⟩) ?_
      refine WL.ex rfl rfl rfl (Ex.loadA ty39 rfl (l := itemC p) (item_len hpo) (Rd.flat (hr.keep M16.keep).row (i := (i : Int).toNat) (fun t ht => item_len (hr.ok t ht)) (by simpa using hpi))) ?_
      refine WL.ac rfl rfl rfl (Ac.alloc M16 al39) ?_; rintro v20 w20 ⟨gi, rfl, hg20, K20, M20⟩
      refine WL.ac0 rfl rfl (Ac.stA M20 ty39 rfl rfl (vs := itemC p) rfl (item_len hpo) item_one (i := 0) rfl (by simp [item_len hpo])) ?_; rintro v21 w21 ⟨K21, M21⟩
      try dsimp only [List.set] at M21
      rw [splice_all _ _ (by simp [item_len hpo])] at M21
      refine WL.nil ?_
      refine WX.next (?_)
      refine WC.seq ?_
      refine WC.region ?_
      refine WL.ac rfl rfl rfl (Ac.bs0 M21 Try.underlying25 sz5) ?_; rintro v22 w22 ⟨g22, rfl, hg22, K22, M22⟩
      refine WL.ex rfl rfl rfl (Ex.fa fl39_4 rfl) ?_
      refine WL.ex rfl rfl rfl (Ex.load ty25 rfl (M22.cell (i := 1) rfl (item_38 hpo))) ?_
      refine WL.ac rfl rfl rfl (Ac.app M22 el25 rfl rfl (i := 0) rfl (by simp) (M22.rd (hr.rd p hpm)) (bytesV_one _) (by omega) (by simp [maxLen]; omega)) ?_; rintro v25 w25 ⟨K25, M25⟩
      try dsimp only [List.set] at M25
      simp only [Nat.zero_add, List.nil_append] at M25
      obtain ⟨Ao, co, rfl⟩ := own_slice (M25.get (i := 0) rfl)
      refine WL.ex rfl rfl rfl (Ex.asg rfl) ?_
      refine WL.nil ?_
      refine WX.next (?_)
      refine WC.seq ?_
      refine WC.region ?_
      refine WL.ex rfl rfl rfl (Ex.mv rfl) ?_
      refine WL.ex rfl rfl rfl (Ex.asg rfl) ?_
      refine WL.nil ?_
      refine WX.next (?_)
      refine WC.cut (σ := Unit) (fun _ => [(20, .slice (some ⟨b0, o0, none⟩) its.length c), (21, .int .i64 (its.length : Int)), (22, .int .i64 (i : Int)), (0, .slice (some ⟨b0, o0, none⟩) its.length c), (3, .pointer (some ⟨g, 0, none⟩)), (4, str (L ++ X)), (7, .slice Ao p.B.l.length co), (8, .pointer (some ⟨g, 0, none⟩))]) (fun _ wr => ∃ v, Mem w wr nof [row (.slice Ao p.B.l.length co) 5 1 p.B.l.length (bytesV p.B.l), blk gi (itemC p) 39, wrR g v (L ++ X)]) ?_ ?_
      ·
        refine WC.seq ?_
        refine WC.region ?_
        refine WL.ex rfl rfl rfl (Ex.fa fl39_0 rfl) ?_
        refine WL.ex rfl rfl rfl (Ex.load ty5 rfl (M25.cell (i := 1) (v := .int .u8 (p.k : Int)) rfl rfl)) ?_
        refine WL.ex rfl rfl rfl (Ex.rem rfl rfl (by decide) (c := ((p.k % 7 : Nat) : Int)) (remN _ 7)) ?_
        refine WL.nil ?_
        refine WX.next (?_)
        refine WC.block ?_
        refine WC.seq ?_
        refine WC.region ?_
        refine WL.ex rfl rfl rfl (Ex.eqI rfl rfl) ?_
        refine WL.ex rfl rfl rfl (Ex.asg rfl) ?_
        refine WL.nil ?_
        refine WX.next (?_)
        refine WC.cond_dec rfl (fun hc34 => ?_) (fun hc34 => ?_)
        · have hkn : p.k % 7 = 0 := by omega
          obtain rfl : X = be 1 (p.x % 256) := by rw [hX]; simp [itemB, hkn]
          refine WC.seq ?_
          refine WC.region ?_
          refine WL.ex rfl rfl rfl (Ex.mv rfl) ?_
          refine WL.ex rfl rfl rfl (Ex.fa fl39_1 rfl) ?_
          refine WL.ex rfl rfl rfl (Ex.load ty33 rfl (M25.cell (i := 1) (v := .int .u64 (p.x : Int)) rfl rfl)) ?_
          refine WL.ex rfl rfl rfl (Ex.cvI Try.underlying33 Try.underlying5 rfl (u8w _)) ?_
          refine WL.ac rfl rfl rfl (Ac.call rfl Try.func18 nm18 rfl (wU8_ok w25 _ _ _ _ (M25.get (i := 2) rfl) (by first | omega | decide) (by first | (simp; done) | (simp; omega) | omega))) ?_; rintro v38 w38 ⟨rfl, v38, T38⟩
          have M38 := M25.turned (i := 2) rfl T38
          try dsimp only [List.set] at M38
          refine WL.ex rfl rfl rfl (Ex.asg rfl) ?_
          refine WL.nil ?_
          refine WX.next (?_)
          refine WC.region ?_
          refine WL.ex rfl rfl rfl (Ex.mv rfl) ?_
          refine WL.ex rfl rfl rfl (Ex.fa fl39_1 rfl) ?_
          refine WL.ex rfl rfl rfl (Ex.load ty33 rfl (M38.cell (i := 1) (v := .int .u64 (p.x : Int)) rfl rfl)) ?_
          refine WL.ex rfl rfl rfl (Ex.rem rfl rfl (by decide) (c := ((p.x % 256 : Nat) : Int)) (remN _ 256)) ?_
          refine WL.ac rfl rfl rfl (Ac.call rfl Try.func19 nm19 rfl (num4_ok w38 _ _ (by first | omega | decide) (by first | omega | decide))) ?_; rintro v44 w44 ⟨rfl, K44⟩
          have M44 := M38.step K44
          refine WL.ex rfl rfl rfl (Ex.addS rfl rfl (by first | (simp; done) | (simp; omega) | omega)) ?_
          refine WL.ex rfl rfl rfl (Ex.asg rfl) ?_
          refine WL.nil ?_
          refine WX.normal_block (?_)
          refine WX.join (()) ?_ (.cons rfl (.cons rfl (.cons rfl (.cons rfl (.cons rfl (.cons rfl (.cons rfl (.cons rfl (.nil)))))))))
          exact ⟨_, M44⟩
        · have hk0 : ¬ p.k % 7 = 0 := by omega
          refine WC.seq ?_
          refine WC.region ?_
          refine WL.ex rfl rfl rfl (Ex.eqI rfl rfl) ?_
          refine WL.ex rfl rfl rfl (Ex.asg rfl) ?_
          refine WL.nil ?_
          refine WX.next (?_)
          refine WC.cond_dec rfl (fun hc47 => ?_) (fun hc47 => ?_)
          · have hkn : p.k % 7 = 1 := by omega
            obtain rfl : X = be 4 (p.x % 4294967296) := by rw [hX]; simp [itemB, hkn, hk0]
            refine WC.seq ?_
            refine WC.region ?_
            refine WL.ex rfl rfl rfl (Ex.mv rfl) ?_
            refine WL.ex rfl rfl rfl (Ex.fa fl39_1 rfl) ?_
            refine WL.ex rfl rfl rfl (Ex.load ty33 rfl (M25.cell (i := 1) (v := .int .u64 (p.x : Int)) rfl rfl)) ?_
            refine WL.ex rfl rfl rfl (Ex.cvI Try.underlying33 Try.underlying43 rfl (u32w _)) ?_
            refine WL.ac rfl rfl rfl (Ac.call rfl Try.func20 nm20 rfl (wU32_ok w25 _ _ _ _ (M25.get (i := 2) rfl) (by first | omega | decide) (by first | (simp; done) | (simp; omega) | omega))) ?_; rintro v53 w53 ⟨rfl, v53, T53⟩
            have M53 := M25.turned (i := 2) rfl T53
            try dsimp only [List.set] at M53
            refine WL.ex rfl rfl rfl (Ex.asg rfl) ?_
            refine WL.nil ?_
            refine WX.next (?_)
            refine WC.region ?_
            refine WL.ex rfl rfl rfl (Ex.mv rfl) ?_
            refine WL.ex rfl rfl rfl (Ex.fa fl39_1 rfl) ?_
            refine WL.ex rfl rfl rfl (Ex.load ty33 rfl (M53.cell (i := 1) (v := .int .u64 (p.x : Int)) rfl rfl)) ?_
            refine WL.ex rfl rfl rfl (Ex.rem rfl rfl (by decide) (c := ((p.x % 4294967296 : Nat) : Int)) (remN _ 4294967296)) ?_
            refine WL.ac rfl rfl rfl (Ac.call rfl Try.func19 nm19 rfl (num4_ok w53 _ _ (by first | omega | decide) (by first | omega | decide))) ?_; rintro v59 w59 ⟨rfl, K59⟩
            have M59 := M53.step K59
            refine WL.ex rfl rfl rfl (Ex.addS rfl rfl (by first | (simp; done) | (simp; omega) | omega)) ?_
            refine WL.ex rfl rfl rfl (Ex.asg rfl) ?_
            refine WL.nil ?_
            refine WX.normal_block (?_)
            refine WX.join (()) ?_ (.cons rfl (.cons rfl (.cons rfl (.cons rfl (.cons rfl (.cons rfl (.cons rfl (.cons rfl (.nil)))))))))
            exact ⟨_, M59⟩
          · have hk1 : ¬ p.k % 7 = 1 := by omega
            refine WC.seq ?_
            refine WC.region ?_
            refine WL.ex rfl rfl rfl (Ex.eqI rfl rfl) ?_
            refine WL.ex rfl rfl rfl (Ex.asg rfl) ?_
            refine WL.nil ?_
            refine WX.next (?_)
            refine WC.cond_dec rfl (fun hc60 => ?_) (fun hc60 => ?_)
            · have hkn : p.k % 7 = 2 := by omega
              obtain rfl : X = be 8 p.x := by rw [hX]; simp [itemB, hkn, hk0, hk1]
              refine WC.seq ?_
              refine WC.region ?_
              refine WL.ex rfl rfl rfl (Ex.mv rfl) ?_
              refine WL.ex rfl rfl rfl (Ex.fa fl39_1 rfl) ?_
              refine WL.ex rfl rfl rfl (Ex.load ty33 rfl (M25.cell (i := 1) (v := .int .u64 (p.x : Int)) rfl rfl)) ?_
              refine WL.ac rfl rfl rfl (Ac.call rfl Try.func21 nm21 rfl (wU64_ok w25 _ _ _ _ (M25.get (i := 2) rfl) (by first | omega | decide) (by first | (simp; done) | (simp; omega) | omega))) ?_; rintro v67 w67 ⟨rfl, v67, T67⟩
              have M67 := M25.turned (i := 2) rfl T67
              try dsimp only [List.set] at M67
              refine WL.ex rfl rfl rfl (Ex.asg rfl) ?_
              refine WL.nil ?_
              refine WX.next (?_)
              refine WC.region ?_
              refine WL.ex rfl rfl rfl (Ex.mv rfl) ?_
              refine WL.ex rfl rfl rfl (Ex.fa fl39_1 rfl) ?_
              refine WL.ex rfl rfl rfl (Ex.load ty33 rfl (M67.cell (i := 1) (v := .int .u64 (p.x : Int)) rfl rfl)) ?_
              refine WL.ac rfl rfl rfl (Ac.call rfl Try.func19 nm19 rfl (num4_ok w67 _ _ (by first | omega | decide) (by first | omega | decide))) ?_; rintro v72 w72 ⟨rfl, K72⟩
              have M72 := M67.step K72
              refine WL.ex rfl rfl rfl (Ex.addS rfl rfl (by first | (simp; done) | (simp; omega) | omega)) ?_
              refine WL.ex rfl rfl rfl (Ex.asg rfl) ?_
              refine WL.nil ?_
              refine WX.normal_block (?_)
              refine WX.join (()) ?_ (.cons rfl (.cons rfl (.cons rfl (.cons rfl (.cons rfl (.cons rfl (.cons rfl (.cons rfl (.nil)))))))))
              exact ⟨_, M72⟩
            · have hk2 : ¬ p.k % 7 = 2 := by omega
              refine WC.seq ?_
              refine WC.region ?_
              refine WL.ex rfl rfl rfl (Ex.eqI rfl rfl) ?_
              refine WL.ex rfl rfl rfl (Ex.asg rfl) ?_
              refine WL.nil ?_
              refine WX.next (?_)
              refine WC.cond_dec rfl (fun hc71 => ?_) (fun hc71 => ?_)
              · have hkn : p.k % 7 = 3 := by omega
                obtain rfl : X = intB p.a := by rw [hX]; simp [itemB, hkn, hk0, hk1, hk2]
                refine WC.seq ?_
                refine WC.region ?_
                refine WL.ex rfl rfl rfl (Ex.mv rfl) ?_
                refine WL.ex rfl rfl rfl (Ex.fa fl39_2 rfl) ?_
                refine WL.ex rfl rfl rfl (Ex.loadA ty35 rfl (l := intV p.a) (by simpa using hoa.1) (M25.rdt (i := 1) rfl (item_2 hpo))) ?_
                refine WL.ac rfl rfl rfl (Ac.call rfl Try.func22 nm22 rfl (wInt_ok w25 _ _ _ _ (M25.get (i := 2) rfl) ‹_› (by first | (simp; done) | (simp; omega) | omega))) ?_; rintro v80 w80 ⟨rfl, v80, T80⟩
                have M80 := M25.turned (i := 2) rfl T80
                try dsimp only [List.set] at M80
                refine WL.ex rfl rfl rfl (Ex.asg rfl) ?_
                refine WL.nil ?_
                refine WX.next (?_)
                refine WC.region ?_
                refine WL.ex rfl rfl rfl (Ex.mv rfl) ?_
                refine WL.ex rfl rfl rfl (Ex.fa fl39_2 rfl) ?_
                refine WL.ex rfl rfl rfl (Ex.loadA ty35 rfl (l := intV p.a) (by simpa using hoa.1) (M80.rdt (i := 1) rfl (item_2 hpo))) ?_
                refine WL.ac rfl rfl rfl (Ac.call rfl Try.func23 nm23 rfl (int4_ok w80 _ ‹_›)) ?_; rintro v85 w85 ⟨rfl, K85⟩
                have M85 := M80.step K85
                refine WL.ex rfl rfl rfl (Ex.addS rfl rfl (by first | (simp; done) | (simp; omega) | omega)) ?_
                refine WL.ex rfl rfl rfl (Ex.asg rfl) ?_
                refine WL.nil ?_
                refine WX.normal_block (?_)
                refine WX.join (()) ?_ (.cons rfl (.cons rfl (.cons rfl (.cons rfl (.cons rfl (.cons rfl (.cons rfl (.cons rfl (.nil)))))))))
                exact ⟨_, M85⟩
              · have hk3 : ¬ p.k % 7 = 3 := by omega
                refine WC.seq ?_
                refine WC.region ?_
                refine WL.ex rfl rfl rfl (Ex.eqI rfl rfl) ?_
                refine WL.ex rfl rfl rfl (Ex.asg rfl) ?_
                refine WL.nil ?_
                refine WX.next (?_)
                refine WC.cond_dec rfl (fun hc82 => ?_) (fun hc82 => ?_)
                · have hkn : p.k % 7 = 4 := by omega
                  obtain rfl : X = p.h := by rw [hX]; simp [itemB, hkn, hk0, hk1, hk2, hk3]
                  refine WC.seq ?_
                  refine WC.region ?_
                  refine WL.ex rfl rfl rfl (Ex.mv rfl) ?_
                  refine WL.ex rfl rfl rfl (Ex.fa fl39_3 rfl) ?_
                  refine WL.ex rfl rfl rfl (Ex.loadA ty37 rfl (l := bytesV p.h) (by simpa using hoh) (M25.rdt (i := 1) rfl (item_6 hpo))) ?_
                  refine WL.ac rfl rfl rfl (Ac.call rfl Try.func24 nm24 rfl (wHash_ok w25 _ _ _ _ (M25.get (i := 2) rfl) ‹_› (by first | (simp; done) | (simp; omega) | omega))) ?_; rintro v93 w93 ⟨rfl, v93, T93⟩
                  have M93 := M25.turned (i := 2) rfl T93
                  try dsimp only [List.set] at M93
                  refine WL.ex rfl rfl rfl (Ex.asg rfl) ?_
                  refine WL.nil ?_
                  refine WX.next (?_)
                  refine WC.region ?_
                  refine WL.ex rfl rfl rfl (Ex.mv rfl) ?_
                  refine WL.ex rfl rfl rfl (Ex.fa fl39_3 rfl) ?_
                  refine WL.ex rfl rfl rfl (Ex.slA Try.underlying37 sz5 rfl) ?_
                  refine WL.ex rfl rfl rfl (Ex.cvBSn Try.underlying25 Try.underlying5 Try.underlying9 rfl hoh.symm (M93.rdt (i := 1) rfl (item_6 hpo))) ?_
                  refine WL.ex rfl rfl rfl (Ex.addS rfl rfl (by first | (simp; done) | (simp; omega) | omega)) ?_
                  refine WL.ex rfl rfl rfl (Ex.asg rfl) ?_
                  refine WL.nil ?_
                  refine WX.normal_block (?_)
                  refine WX.join (()) ?_ (.cons rfl (.cons rfl (.cons rfl (.cons rfl (.cons rfl (.cons rfl (.cons rfl (.cons rfl (.nil)))))))))
                  exact ⟨_, M93⟩
                · have hk4 : ¬ p.k % 7 = 4 := by omega
                  refine WC.seq ?_
                  refine WC.region ?_
                  refine WL.ex rfl rfl rfl (Ex.eqI rfl rfl) ?_
                  refine WL.ex rfl rfl rfl (Ex.asg rfl) ?_
                  refine WL.nil ?_
                  refine WX.next (?_)
                  refine WC.cond_dec rfl (fun hc93 => ?_) (fun hc93 => ?_)
                  · have hkn : p.k % 7 = 5 := by omega
                    obtain rfl : X = p.B.l := by rw [hX]; simp [itemB, hkn, hk0, hk1, hk2, hk3, hk4]
                    refine WC.seq ?_
                    refine WC.region ?_
                    refine WL.ex rfl rfl rfl (Ex.mv rfl) ?_
                    refine WL.ex rfl rfl rfl (Ex.mv rfl) ?_
                    refine WL.ac rfl rfl rfl (Ac.call rfl Try.func25 nm25 rfl (wRaw_ok w25 _ _ _ _ _ _ (M25.get (i := 2) rfl) (M25.rdr (i := 0) rfl) (by first | (simp; done) | (simp; omega) | omega) (by first | (simp; done) | (simp; omega) | omega))) ?_; rintro v105 w105 ⟨rfl, v105, T105⟩
                    have M105 := M25.turned (i := 2) rfl T105
                    try dsimp only [List.set] at M105
                    refine WL.ex rfl rfl rfl (Ex.asg rfl) ?_
                    refine WL.nil ?_
                    refine WX.next (?_)
                    refine WC.region ?_
                    refine WL.ex rfl rfl rfl (Ex.mv rfl) ?_
                    refine WL.ex rfl rfl rfl (Ex.mv rfl) ?_
                    refine WL.ex rfl rfl rfl (Ex.cvBS Try.underlying25 Try.underlying5 Try.underlying9 rfl (M105.rdr (i := 0) rfl)) ?_
                    refine WL.ex rfl rfl rfl (Ex.addS rfl rfl (by first | (simp; done) | (simp; omega) | omega)) ?_
                    refine WL.ex rfl rfl rfl (Ex.asg rfl) ?_
                    refine WL.nil ?_
                    refine WX.normal_block (?_)
                    refine WX.join (()) ?_ (.cons rfl (.cons rfl (.cons rfl (.cons rfl (.cons rfl (.cons rfl (.cons rfl (.cons rfl (.nil)))))))))
                    exact ⟨_, M105⟩
                  · have hk5 : ¬ p.k % 7 = 5 := by omega
                    obtain rfl : X = [] := by rw [hX]; simp [itemB, hk0, hk1, hk2, hk3, hk4, hk5]
                    rw [List.append_nil]
                    refine WC.skip ?_
                    refine WX.normal_block (?_)
                    refine WX.join (()) ?_ (.cons rfl (.cons rfl (.cons rfl (.cons rfl (.cons rfl (.cons rfl (.cons rfl (.cons rfl (.nil)))))))))
                    exact ⟨_, M25⟩
      · rintro _ w112 ⟨v, M112⟩
        refine WC.seq ?_
        refine WC.seq ?_
        refine WC.region ?_
        refine WL.ex rfl rfl rfl (Ex.mv rfl) ?_
        refine WL.ex rfl rfl rfl (Ex.len Try.underlying25 rfl) ?_
        refine WL.ex rfl rfl rfl (Ex.mv rfl) ?_
        refine WL.nil ?_
        refine WX.next (?_)
        refine WC.block ?_
        refine WC.loop (σ := Nat) (fun j => [(20, .slice (some ⟨b0, o0, none⟩) its.length c), (21, .int .i64 (its.length : Int)), (22, .int .i64 (i : Int)), (0, .slice (some ⟨b0, o0, none⟩) its.length c), (3, .pointer (some ⟨g, 0, none⟩)), (4, str (L ++ X)), (7, .slice Ao p.B.l.length co), (8, .pointer (some ⟨g, 0, none⟩)), (103, .int .i64 (p.B.l.length : Int)), (104, .int .i64 (j : Int))]) (fun j wr => j ≤ p.B.l.length ∧ ∃ v l, l.length = p.B.l.length ∧ Mem w wr nof [row (.slice Ao p.B.l.length co) 5 1 p.B.l.length (bytesV l), blk gi (itemC p) 39, wrR g v (L ++ X)]) (fun j => p.B.l.length - j) (0) ?_ (.cons rfl (.cons rfl (.cons rfl (.cons rfl (.cons rfl (.cons rfl (.cons rfl (.cons rfl (.cons rfl (.cons rfl (.nil))))))))))) ?_
        · exact ⟨by omega, _, _, rfl, M112⟩
        rintro j w116 ⟨hj, v, lo, hlo, M116⟩
        refine WC.seq ?_
        refine WC.region ?_
        refine WL.ex rfl rfl rfl (Ex.lss rfl rfl) ?_
        refine WL.nil ?_
        refine WX.next (?_)
        refine WC.seq ?_
        refine WC.cond_dec rfl (fun hc105 => ?_) (fun hc105 => ?_)
        · obtain ⟨go, rfl⟩ := own_some (M116.get (i := 0) rfl) (by omega)
          obtain ⟨b, hbj⟩ : ∃ b, lo[j]? = some b := ⟨_, List.getElem?_eq_getElem (by omega)⟩
          refine WC.skip ?_
          refine WX.next (?_)
          refine WC.seq ?_
          refine WC.block ?_
          refine WC.seq ?_
          refine WC.region ?_
          refine WL.ex rfl rfl rfl (Ex.mv rfl) ?_
          refine WL.ex rfl rfl rfl (Ex.asg rfl) ?_
          refine WL.nil ?_
          refine WX.next (?_)
          refine WC.region ?_
          refine WL.ex rfl rfl rfl (Ex.mv rfl) ?_
          refine WL.ex rfl rfl rfl (Ex.mv rfl) ?_
          refine WL.ex rfl rfl rfl (Ex.ia Try.underlying25 sz5 rfl rfl ⟨by omega, by omega⟩) ?_
          refine WL.ex rfl rfl rfl (Ex.load ty5 rfl (Rd.at1 (u := byteV b) (M116.rdr (i := 0) rfl) (j := (j : Int).toNat * 1) (by simp [bytesV_get hbj]))) ?_
          refine WL.ex rfl rfl rfl (Ex.add rfl rfl (u8b (b.toNat + 1))) ?_
          refine WL.ex rfl rfl rfl (Ex.ia Try.underlying25 sz5 rfl rfl ⟨by omega, by omega⟩) ?_
          refine WL.ac0 rfl rfl (Ac.stR M116 ty5 rfl rfl rfl (i := 0) rfl (by simp; omega)) ?_; rintro v126 w126 ⟨K126, M126⟩
          try dsimp only [List.set] at M126
          simp only [Int.toNat_natCast, Nat.mul_one, Nat.zero_add] at M126
          rw [bytesV_set] at M126
          refine WL.nil ?_
          refine WX.normal_block (WX.next (?_))
          refine WC.region ?_
          refine WL.ex rfl rfl rfl (Ex.add rfl rfl (i64w _ (by omega) (by omega))) ?_
          refine WL.ex rfl rfl rfl (Ex.mv rfl) ?_
          refine WL.nil ?_
          refine WX.again (j + 1) ?_ ?_ (.cons rfl (.cons rfl (.cons rfl (.cons rfl (.cons rfl (.cons rfl (.cons rfl (.cons rfl (.cons rfl (.cons rfl (.nil)))))))))))
          · (try dsimp only); omega
          · exact ⟨by omega, v, _, by simpa using hlo, M126⟩
        · skip
          refine WC.exit ?_
          refine WX.exit_then (WX.exit_then (WX.exit_block (WX.next (?_))))
          refine WC.seq ?_
          refine WC.region ?_
          refine WL.ex rfl rfl rfl (Ex.mv rfl) ?_
          refine WL.ex rfl rfl rfl (Ex.mv rfl) ?_
          refine WL.ex rfl rfl rfl (Ex.neP Try.underlying30 (by kernel_rfl) rfl rfl rfl) ?_
          rw [beq_self_eq_true]
          refine WL.ex rfl rfl rfl (Ex.mv rfl) ?_
          refine WL.yes rfl rfl rfl rfl ?_
          refine WL.ex rfl rfl rfl (Ex.mv rfl) ?_
          refine WL.yes rfl rfl rfl rfl ?_
          refine WL.ac rfl rfl rfl (Ac.call rfl Try.func26 nm26 rfl (wBytes_ok w116 _ _ _ (M116.get (i := 2) rfl) (by first | (simp; done) | (simp; omega) | omega))) ?_; rintro v134 w134 N134
          have M134 := M116.new N134
          obtain ⟨A134, c134, rfl⟩ := own_slice (M134.get (i := 0) rfl)
          refine WL.yes rfl rfl rfl rfl ?_
          refine WL.ex rfl rfl rfl (Ex.cvBS Try.underlying25 Try.underlying5 Try.underlying9 rfl (M134.rdr (i := 0) rfl)) ?_
          refine WL.yes rfl rfl rfl rfl ?_
          refine WL.ex rfl rfl rfl (Ex.mv rfl) ?_
          refine WL.yes rfl rfl rfl rfl ?_
          refine WL.ex rfl rfl rfl (Ex.neS rfl rfl) ?_
          rw [decide_eq_true rfl]
          refine WL.ex rfl rfl rfl (Ex.pickF rfl rfl) ?_
          refine WL.nil ?_
          refine WX.next (?_)
          refine WC.no rfl ?_
          refine WC.skip ?_
          refine WX.normal_block (WX.next (?_))
          refine WC.region ?_
          refine WL.ex rfl rfl rfl (Ex.add rfl rfl (i64w _ (by omega) (by omega))) ?_
          refine WL.ex rfl rfl rfl (Ex.mv rfl) ?_
          refine WL.nil ?_
          refine WX.again (((i + 1, L ++ X) : Nat × List UInt8)) ?_ ?_ (.cons rfl (.cons rfl (.cons rfl (.cons rfl (.cons rfl (.cons rfl (.nil)))))))
          · (try dsimp only); omega
          · refine ⟨by dsimp only; omega, by dsimp only; rw [items_snoc hpi, ← hL, hX], v, ?_⟩
            exact Mem.sub M134 (.cons _ (.cons _ (.cons _ (.refl _))))
    · skip
      refine WC.exit ?_
      refine WX.exit_then (WX.exit_then (WX.exit_block (WX.next (?_))))
      refine WC.seq ?_
      refine WC.region ?_
      refine WL.ex rfl rfl rfl (Ex.asg rfl) ?_
      refine WL.nil ?_
      refine WX.next (?_)
      refine WC.ret ?_
      refine WX.ret1 rfl rfl ?_
      exact ⟨rfl, M16.keep⟩
  · rw [decide_eq_false hf]
    refine WL.yes rfl rfl rfl rfl ?_
    refine WL.ex rfl rfl rfl (Ex.not rfl) ?_
    refine WL.ex rfl rfl rfl (Ex.pickF rfl rfl) ?_
    refine WL.nil ?_
    refine WX.next (?_)
    refine WC.yes rfl ?_
    refine WC.seq ?_
    refine WC.region ?_
    refine WL.ac rfl rfl rfl (Ac.call rfl Try.func16 nm16 rfl (lives04_ok w6)) ?_; rintro v144 w144 ⟨rfl, K144⟩
    have M144 := M6.step K144
    refine WL.ex rfl rfl rfl (Ex.asg rfl) ?_
    refine WL.nil ?_
    refine WX.next (?_)
    refine WC.ret ?_
    refine WX.ret_then (?_)
    refine WX.ret1 rfl rfl ?_
    exact ⟨rfl, M144.keep⟩

end Go.Proofs.Ytpngjgcbdaogmaa
