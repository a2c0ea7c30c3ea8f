/- Walks, written by gen.py off the translation's own print: each says what the Go function comes to. -/
import Derived.Test.YtchmjpdkonfifaaDoorGa
set_option linter.unusedVariables false
set_option linter.unusedSimpArgs false
namespace Go.Proofs.YtchmjpdkonfifaaDoor
open Go.Sx Go.RowKit
attribute [local irreducible] Ac Ex WL WC WX WP Gives sha

/- sponsion/sponsionref04.Num -/
theorem num4_ok (w : World) (x size : Nat) (hx : x < 18446744073709551616) (hs : size ≤ 1000) :
    Gives Tryd.prog 96 #[.int .u64 (x : Int), .int .i64 (size : Int)] w fun u w1 => u = str (be size x) ∧ Keep nof w w1 := by
  have M0 := Mem.start w nof
  refine Gives.enter (n := 20) Tryd.func96 rfl Tryd.ntmps96 rfl (env := [(0, .int .u64 (x : Int)), (1, .int .i64 (size : Int))]) rfl ?_
  refine WC.seq ?_
  refine WC.region ?_
  refine WL.ex rfl rfl rfl (Ex.asg rfl) ?_
  refine WL.nil ?_
  refine WX.next (?_)
  refine WC.seq ?_
  refine WC.region ?_
  refine WL.ex rfl rfl rfl (Ex.asg rfl) ?_
  refine WL.nil ?_
  refine WX.next (?_)
  refine WC.seq ?_
  refine WC.seq ?_
  refine WC.region ?_
  refine WL.ex rfl rfl rfl (Ex.mv rfl) ?_
  refine WL.ex rfl rfl rfl (Ex.mv rfl) ?_
  refine WL.nil ?_
  refine WX.next (?_)
  refine WC.block ?_
  refine WC.loop (σ := Nat) (fun i => [(0, .int .u64 ((x / 256 ^ i : Nat) : Int)), (5, str (be i x)), (6, .int .i64 (size : Int)), (7, .int .i64 (i : Int))]) (fun i wr => i ≤ size ∧ Mem w wr nof []) (fun i => size - i) (0) ?_ (.cons (congrArg some (congrArg (Value.int .u64) (by simp))) (.cons rfl (.cons rfl (.cons rfl .nil)))) ?_
  · exact ⟨by omega, M0⟩
  rintro i w5 ⟨hi, M5⟩
  refine WC.seq ?_
  refine WC.region ?_
  refine WL.ex rfl rfl rfl (Ex.lss rfl rfl) ?_
  refine WL.nil ?_
  refine WX.next (?_)
  refine WC.seq ?_
  refine WC.cond_dec rfl (fun hc8 => ?_) (fun hc8 => ?_)
  · skip
    refine WC.skip ?_
    refine WX.next (?_)
    refine WC.seq ?_
    refine WC.block ?_
    refine WC.seq ?_
    refine WC.region ?_
    refine WL.ex rfl rfl rfl (Ex.mv rfl) ?_
    refine WL.ex rfl rfl rfl (Ex.rem rfl rfl (by decide) (c := ((x / 256 ^ i % 256 : Nat) : Int)) (remN _ 256)) ?_
    refine WL.ex rfl rfl rfl (Ex.cvI Tryd.underlying23 Tryd.underlying5 rfl (c := ((UInt8.ofNat (x / 2 ^ (8 * i))).toNat : Int)) (by rw [u8b, ofNat_mod, Nat.pow_mul])) ?_
    refine WL.ac rfl rfl rfl (Ac.bs M5 (parts := [(0, .tmp 11)]) rfl rfl (LitS.one el112 rfl)) ?_; rintro v10 w10 ⟨g10, rfl, hg10, K10, M10⟩
    refine WL.ex rfl rfl rfl (Ex.cvBS Tryd.underlying112 Tryd.underlying5 Tryd.underlying9 rfl (l := [UInt8.ofNat (x / 2 ^ (8 * i))]) (M10.rdw (i := 0) rfl)) ?_
    refine WL.ex rfl rfl rfl (Ex.mv rfl) ?_
    refine WL.ex rfl rfl rfl (Ex.addS rfl rfl (by simp; omega)) ?_
    refine WL.ex rfl rfl rfl (Ex.asg rfl) ?_
    refine WL.nil ?_
    refine WX.next (?_)
    refine WC.region ?_
    refine WL.ex rfl rfl rfl (Ex.mv rfl) ?_
    refine WL.ex rfl rfl rfl (Ex.quo rfl rfl (by decide) (c := ((x / 256 ^ (i + 1) : Nat) : Int)) (by rw [Nat.pow_succ, ← Nat.div_div_eq_div_mul]; exact u64quo _ 256 (Nat.lt_of_le_of_lt (Nat.div_le_self _ _) hx))) ?_
    refine WL.ex rfl rfl rfl (Ex.asg rfl) ?_
    refine WL.nil ?_
    refine WX.normal_block (WX.next (?_))
    refine WC.region ?_
    refine WL.ex rfl rfl rfl (Ex.add rfl rfl (i64w _ (by omega) (by omega))) ?_
    refine WL.ex rfl rfl rfl (Ex.mv rfl) ?_
    refine WL.nil ?_
    refine WX.again (i + 1) ?_ ?_ (.cons rfl (.cons rfl (.cons rfl (.cons rfl (.nil)))))
    · (try dsimp only); omega
    · exact ⟨by omega, M10.drop1⟩
  · obtain rfl : i = size := by omega
    refine WC.exit ?_
    refine WX.exit_then (WX.exit_then (WX.exit_block (WX.next (?_))))
    refine WC.seq ?_
    refine WC.region ?_
    refine WL.ex rfl rfl rfl (Ex.mv rfl) ?_
    refine WL.ex rfl rfl rfl (Ex.asg rfl) ?_
    refine WL.nil ?_
    refine WX.next (?_)
    refine WC.ret ?_
    refine WX.ret1 rfl rfl ?_
    exact ⟨rfl, M5.keep⟩

/-- A slice of texts that can be read. -/
abbrev RdS (w : World) (A : Option Addr) (ts : List (List UInt8)) : Prop := Rd w A (ts.map str)
theorem RdS.plain {w : World} {A : Option Addr} {ts : List (List UInt8)} (h : RdS w A ts) {i : Nat} {p : List UInt8} (hp : ts[i]? = some p) : ∃ b o, A = some ⟨b, o, none⟩ := by
  obtain ⟨b, o, hA, _⟩ := Rd.plain h (by have := (List.getElem?_eq_some_iff.1 hp).1; simp; omega)
  exact ⟨b, o, hA⟩
theorem strs_one (ts : List (List UInt8)) : ∀ u ∈ ts.map str, u.oneCell' = true := by
  intro u hu
  obtain ⟨x, _, rfl⟩ := List.mem_map.1 hu
  rfl
theorem hidx {C : List UInt8 → List Value} {l : List (List UInt8)} : True := trivial

/- sponsion/sponsionref06.Text -/
theorem text6_ok (w : World) (tag : Nat) (A : Option Addr) (c : Nat) (ts : List (List UInt8)) (ht : tag < 256) (hr : RdS w A ts) (hp : ∀ p ∈ ts, p.length < 4294967296) (hb : (txt tag ts).length ≤ 1000000000000) (hn : ts.length ≤ 1000000000000) :
    Gives Tryd.prog 95 #[.int .u8 (tag : Int), .slice A ts.length c] w fun u w1 => u = str (txt tag ts) ∧ Keep nof w w1 := by
  have M0 := Mem.start w nof
  refine Gives.enter (n := 27) Tryd.func95 rfl Tryd.ntmps95 rfl (env := [(0, .int .u8 (tag : Int)), (1, .slice A ts.length c)]) rfl ?_
  refine WC.seq ?_
  refine WC.region ?_
  refine WL.ex rfl rfl rfl (Ex.asg rfl) ?_
  refine WL.nil ?_
  refine WX.next (?_)
  refine WC.seq ?_
  refine WC.region ?_
  refine WL.ex rfl rfl rfl (Ex.mv rfl) ?_
  refine WL.ex rfl rfl rfl (Ex.cvI Tryd.underlying5 Tryd.underlying23 rfl (u64w_lt _ (by omega))) ?_
  refine WL.ac rfl rfl rfl (Ac.call rfl Tryd.func96 nm96 rfl (num4_ok w tag 1 (by omega) (by decide))) ?_; rintro v4 w4 ⟨rfl, K4⟩
  rw [show be 1 tag = txt tag [] by simp [txt]]
  have M4 := M0.step K4
  refine WL.ex rfl rfl rfl (Ex.asg rfl) ?_
  refine WL.nil ?_
  refine WX.next (?_)
  refine WC.seq ?_
  refine WC.seq ?_
  refine WC.region ?_
  refine WL.ex rfl rfl rfl (Ex.mv rfl) ?_
  refine WL.ex rfl rfl rfl (Ex.len Tryd.underlying135 rfl) ?_
  refine WL.ex rfl rfl rfl (Ex.mv rfl) ?_
  refine WL.nil ?_
  refine WX.next (?_)
  refine WC.block ?_
  refine WC.loop (σ := Nat) (fun i => [(5, str (txt tag (ts.take i))), (11, .slice A ts.length c), (12, .int .i64 (ts.length : Int)), (13, .int .i64 (i : Int))]) (fun i wr => i ≤ ts.length ∧ Mem w wr nof []) (fun i => ts.length - i) (0) ?_ (.cons rfl (.cons rfl (.cons rfl (.cons rfl (.nil))))) ?_
  · exact ⟨by omega, M4⟩
  rintro i w9 ⟨hi, M9⟩
  refine WC.seq ?_
  refine WC.region ?_
  refine WL.ex rfl rfl rfl (Ex.lss rfl rfl) ?_
  refine WL.nil ?_
  refine WX.next (?_)
  refine WC.seq ?_
  refine WC.cond_dec rfl (fun hin => ?_) (fun hin => ?_)
  · obtain ⟨p, hpi⟩ : ∃ p, ts[i]? = some p := ⟨_, List.getElem?_eq_getElem (by omega)⟩
    have hpm : p ∈ ts := List.mem_of_getElem? hpi
    obtain ⟨b0, o0, hA⟩ := RdS.plain hr hpi
    subst hA
    have hp4 := hp p hpm
    have hsn := take_snoc hpi
    have hle := txt_take_le tag ts (i + 1)
    rw [hsn, txt_snoc] at hle
    simp only [List.length_append, be_length] at hle
    refine WC.skip ?_
    refine WX.next (?_)
    refine WC.seq ?_
    refine WC.block ?_
    refine WC.seq ?_
    refine WC.region ?_
    refine WL.ex rfl rfl rfl (Ex.ia Tryd.underlying135 sz9 rfl rfl ⟨by omega, by omega⟩) ?_
    refine WL.ex rfl rfl rfl (Ex.load ty9 rfl (Rd.at1 (u := str p) (hr.keep0 M9.keep) (j := (i : Int).toNat * 1) (by simp [hpi]))) ?_
    refine WL.ex rfl rfl rfl (Ex.asg rfl) ?_
    refine WL.nil ?_
    refine WX.next (?_)
    refine WC.region ?_
    refine WL.ex rfl rfl rfl (Ex.mv rfl) ?_
    refine WL.ex rfl rfl rfl (Ex.mv rfl) ?_
    refine WL.ex rfl rfl rfl (Ex.lenS Tryd.underlying9 rfl) ?_
    refine WL.ex rfl rfl rfl (Ex.cvI Tryd.underlying3 Tryd.underlying23 rfl (u64w_lt _ (by omega))) ?_
    refine WL.ac rfl rfl rfl (Ac.call rfl Tryd.func96 nm96 rfl (num4_ok w9 p.length 4 (by omega) (by decide))) ?_; rintro v18 w18 ⟨rfl, K18⟩
    have M18 := M9.step K18
    refine WL.ex rfl rfl rfl (Ex.addS rfl rfl (by simp only [be_length]; omega)) ?_
    refine WL.ex rfl rfl rfl (Ex.mv rfl) ?_
    refine WL.ex rfl rfl rfl (Ex.addS rfl rfl (by simp only [List.length_append, be_length]; omega)) ?_
    rw [← txt_snoc, ← hsn]
    refine WL.ex rfl rfl rfl (Ex.asg rfl) ?_
    refine WL.nil ?_
    refine WX.normal_block (WX.next (?_))
    refine WC.region ?_
    refine WL.ex rfl rfl rfl (Ex.add rfl rfl (i64w _ (by omega) (by omega))) ?_
    refine WL.ex rfl rfl rfl (Ex.mv rfl) ?_
    refine WL.nil ?_
    refine WX.again (i + 1) ?_ ?_ (.cons rfl (.cons rfl (.cons rfl (.cons rfl (.nil)))))
    · (try dsimp only); omega
    · exact ⟨by omega, M18⟩
  · obtain rfl : i = ts.length := by omega
    rw [List.take_length]
    refine WC.exit ?_
    refine WX.exit_then (WX.exit_then (WX.exit_block (WX.next (?_))))
    refine WC.seq ?_
    refine WC.region ?_
    refine WL.ex rfl rfl rfl (Ex.mv rfl) ?_
    refine WL.ex rfl rfl rfl (Ex.asg rfl) ?_
    refine WL.nil ?_
    refine WX.next (?_)
    refine WC.ret ?_
    refine WX.ret1 rfl rfl ?_
    exact ⟨rfl, M9.keep⟩

/- sponsion/sponsionref06.Of -/
theorem refOf_ok (w : World) (tag : Nat) (A : Option Addr) (c : Nat) (ts : List (List UInt8)) (ht : tag < 256) (hr : RdS w A ts) (hR : TabR w) (hp : ∀ p ∈ ts, p.length < 4294967296) (hb : (txt tag ts).length ≤ 1000000000000) (hn : ts.length ≤ 1000000000000) :
    Gives Tryd.prog 79 #[.int .u8 (tag : Int), .slice A ts.length c] w fun u w1 => u = .agg (bytesV (dOf tag ts)).toArray ∧ Keep nof w w1 := by
  have M0 := Mem.start w nof
  have hs32 := dOf_len tag ts
  refine Gives.enter (n := 10) Tryd.func79 rfl Tryd.ntmps79 rfl (env := [(0, .int .u8 (tag : Int)), (1, .slice A ts.length c)]) rfl ?_
  refine WC.seq ?_
  refine WC.region ?_
  refine WL.ac rfl rfl rfl (Ac.alloc M0 (l := bytesV (List.replicate 32 0)) (by kernel_rfl)) ?_; rintro v1 w1 ⟨g1, rfl, hg1, K1, M1⟩
  refine WL.nil ?_
  refine WX.next (?_)
  refine WC.seq ?_
  refine WC.region ?_
  refine WL.ex rfl rfl rfl (Ex.mv rfl) ?_
  refine WL.ex rfl rfl rfl (Ex.mv rfl) ?_
  refine WL.ac rfl rfl rfl (Ac.call rfl Tryd.func95 nm95 rfl (text6_ok w1 tag A c ts ht (hr.keep0 M1.keep) hp hb hn)) ?_; rintro v4 w4 ⟨rfl, K4⟩
  have M4 := M1.step K4
  refine WL.ac rfl rfl rfl (Ac.cvSB M4 Tryd.underlying9 Tryd.underlying112 Tryd.underlying5 rfl) ?_; rintro v5 w5 ⟨gs, cs, rfl, hg5, K5, M5⟩
  refine WL.ac rfl rfl rfl (Ac.call rfl Tryd.func94 nm94 rfl (rsum_ok w5 _ cs (txt tag ts) (M5.datrd (i := 0) rfl) (hR.keep0 M5.keep) hb)) ?_; rintro v6 w6 ⟨rfl, K6⟩
  rw [show sha (txt tag ts) = dOf tag ts from rfl]
  have M6 := M5.step K6
  refine WL.ac0 rfl rfl (Ac.stA M6 ty31 rfl rfl rfl (h32_len (by first | assumption | exact h32_0)) (bytesV_one _) (i := 1) rfl (by first | (rw [h32_len (by first | assumption | exact h32_0), h32_len (by first | assumption | exact h32_0)]; decide) | (rw [h32_len (by first | assumption | exact h32_0)]; decide) | rw [h32_len (by first | assumption | exact h32_0)])) ?_; rintro v7 w7 ⟨K7, M7⟩
  try dsimp only [List.set] at M7
  rw [splice_all _ _ (by first | rw [h32_len (by first | assumption | exact h32_0), h32_len (by first | assumption | exact h32_0)] | rw [h32_len (by first | assumption | exact h32_0)])] at M7
  refine WL.nil ?_
  refine WX.next (?_)
  refine WC.ret ?_
  refine WX.retc rfl rfl (run_loadVarA ty31 (h32_len (by first | assumption | exact h32_0)) (M7.rdw (i := 1) rfl)) ?_
  exact ⟨rfl, M7.keep⟩

/- sponsion/sponsionref06.Node -/
theorem refNode_ok (w : World) (a b : List UInt8) (ha : H32 a) (hb : H32 b) (hR : TabR w) :
    Gives Tryd.prog 76 #[.agg (bytesV a).toArray, .agg (bytesV b).toArray] w fun u w1 => u = .agg (bytesV (dNode a b)).toArray ∧ Keep nof w w1 := by
  have M0 := Mem.start w nof
  have hs32 := dNode_len a b
  refine Gives.enter (n := 11) Tryd.func76 rfl Tryd.ntmps76 rfl (env := [(0, .agg (bytesV a).toArray), (1, .agg (bytesV b).toArray)]) rfl ?_
  refine WC.seq ?_
  refine WC.region ?_
  refine WL.ac rfl rfl rfl (Ac.box M0 rfl rfl) ?_; rintro v1 w1 ⟨ga, rfl, hg1, K1, M1⟩
  refine WL.ac rfl rfl rfl (Ac.box M1 rfl rfl) ?_; rintro v2 w2 ⟨gb, rfl, hg2, K2, M2⟩
  refine WL.ac rfl rfl rfl (Ac.alloc M2 (l := bytesV (List.replicate 32 0)) (by kernel_rfl)) ?_; rintro v3 w3 ⟨g1, rfl, hg3, K3, M3⟩
  refine WL.nil ?_
  refine WX.next (?_)
  refine WC.seq ?_
  refine WC.draw (Keep nof w3.drew) [4, 6] (.one 0 0 (.one 2 0 (.one 1 1 (.one 3 1 (.one 4 2 (.one 5 2 (.one 6 2 .nil))))))) mixed (by kernel_rfl) (by kernel_rfl) (by kernel_rfl) (HQ.then_ HQ.body) ?_
  obtain ⟨w4, hw4⟩ : ∃ v, v = w3.drew := ⟨_, rfl⟩
  have D4 : Keep nof w3 w4 := by rw [hw4]; exact Keep.drew _ _
  have M4 := M3.step D4
  rw [← hw4]; clear hw4
  refine WP.p rfl rfl rfl rfl (fun _ => Ex.slA Tryd.underlying31 sz5 rfl) ?_
  refine WP.p rfl rfl rfl rfl (fun _ => Ex.slA Tryd.underlying31 sz5 rfl) ?_
  refine WP.q (Keep.refl _ _) rfl rfl rfl rfl (fun w' hS => Ex.cvBSn Tryd.underlying112 Tryd.underlying5 Tryd.underlying9 rfl ha.symm ((M4.rdw (i := 2) rfl).keep0 hS)) ?_
  refine WP.q (Keep.refl _ _) rfl rfl rfl rfl (fun w' hS => Ex.cvBSn Tryd.underlying112 Tryd.underlying5 Tryd.underlying9 rfl hb.symm ((M4.rdw (i := 1) rfl).keep0 hS)) ?_
  refine WP.a rfl rfl rfl rfl (Ac.bs M4 (parts := [(0, .tmp 6), (1, .tmp 8)]) (l := [str a, str b]) rfl rfl ⟨Tryd.underlying135, 1, #[.string ⟨#[]⟩], sz9, by decide, fun _ => by kernel_rfl, by kernel_rfl⟩) ?_; rintro v9 w9 ⟨g2, rfl, hg9, K9, M9⟩; refine .inl ⟨rfl, Keep nof w9, ?_⟩
  refine WP.as rfl rfl rfl rfl (Ac.call rfl Tryd.func79 nm79 rfl (refOf_ok w9 1 _ _ [a, b] (by decide) (M9.rdw (i := 0) rfl) (hR.keep0 M9.keep) (fun p hp => by simp only [List.mem_cons, List.not_mem_nil, or_false] at hp; rcases hp with rfl | rfl <;> (simp only [ha, hb]; decide)) (by rw [txt_2, ha, hb]; decide) (by simp))) ?_; rintro v10 w10 ⟨rfl, K10⟩
  refine ⟨Keep nof w10, fun u h => K10.trans h, Keep.refl _ _, ?_⟩
  rw [show dOf 1 [a, b] = dNode a b from rfl]
  have M10 := M9.step K10
  refine WP.a0 rfl rfl rfl (Ac.stA M10 ty31 rfl rfl rfl (h32_len (by first | assumption | exact h32_0)) (bytesV_one _) (i := 1) rfl (by first | (rw [h32_len (by first | assumption | exact h32_0), h32_len (by first | assumption | exact h32_0)]; decide) | (rw [h32_len (by first | assumption | exact h32_0)]; decide) | rw [h32_len (by first | assumption | exact h32_0)])) ?_; rintro v11 w11 ⟨K11, M11⟩; refine .inl ⟨rfl, Keep nof w11, ?_⟩
  try dsimp only [List.set] at M11
  rw [splice_all _ _ (by first | rw [h32_len (by first | assumption | exact h32_0), h32_len (by first | assumption | exact h32_0)] | rw [h32_len (by first | assumption | exact h32_0)])] at M11
  refine WP.nil ?_
  refine WX.next (?_)
  refine WC.ret ?_
  refine WX.retc rfl rfl (run_loadVarA ty31 (h32_len (by first | assumption | exact h32_0)) (M11.rdw (i := 1) rfl)) ?_
  exact ⟨rfl, M11.keep⟩

abbrev empC (l : List (List UInt8)) : List Value := l.flatMap bytesV
abbrev EmpOk (l : List (List UInt8)) : Prop := ArrOk 33 (fun a => H32 a) l
theorem emp_len {l : List (List UInt8)} (h : EmpOk l) : (empC l).length = 1056 := arr_len (fun h => h32_len h) h rfl
theorem emp_one {l : List (List UInt8)} : ∀ u ∈ empC l, u.oneCell' = true := flat_one' fun _ => (bytesV_one _)
abbrev emp0 : List (List UInt8) := List.replicate 33 (List.replicate 32 0)
theorem emp0_ok : EmpOk emp0 := ⟨by simp, fun a ha => by rw [List.eq_of_mem_replicate ha]; exact h32_0⟩
theorem empC_inj {a b : List (List UInt8)} (ha : EmpOk a) (hb : EmpOk b) (h : empC a = empC b) : a = b := flat_inj (ok := fun a => H32 a) (fun _ _ e => (fun e => bytesV_inj e) e) (fun h => h32_len h) (by rw [ha.len, hb.len]) ha.mem hb.mem h
abbrev empK : List CK := rep 33 (rep 32 [.int .u8])
theorem oks_emp {w : World} {l : List (List UInt8)} (h : EmpOk l) : CK.oks w empK (empC l) := oks_arr (fun h => oks_h32 h) h
theorem emp_view {w : World} : ∀ vs, CK.oks w empK vs → ∃ a, vs = empC a ∧ EmpOk a := arr_view h32_view 33

/-- The sums of trees without leaves, of the first k levels. -/
def empTo (k : Nat) : List (List UInt8) := (List.range 33).map fun i => if i < k then emptyH i else List.replicate 32 0
theorem empTo_ok (k : Nat) : EmpOk (empTo k) := ⟨by simp [empTo], fun a ha => by
  obtain ⟨i, _, rfl⟩ := List.mem_map.1 ha
  split
  · exact emptyH_len _
  · exact h32_0⟩
theorem empTo_0 : empTo 0 = emp0 := by
  apply List.ext_getElem
  · simp only [empTo, emp0, List.length_map, List.length_range, List.length_replicate]
  · intro i h1 h2
    simp only [empTo, emp0, List.getElem_map, List.getElem_range, List.getElem_replicate]
    rw [if_neg (by omega)]
theorem empTo_get {k i : Nat} (h : i < k) (hi : i < 33) : (empTo k)[i]? = some (emptyH i) := by
  rw [empTo, List.getElem?_map, List.getElem?_range hi]
  simp [h]
theorem empTo_set {k : Nat} (hk : k < 33) : (empTo k).set k (emptyH k) = empTo (k + 1) := by
  apply List.ext_getElem
  · simp [empTo]
  · intro i h1 h2
    simp only [empTo, List.getElem_set, List.getElem_map, List.getElem_range]
    split
    · rename_i e; subst e; rw [if_pos (by omega)]
    · rename_i e
      by_cases h3 : i < k
      · rw [if_pos h3, if_pos (by omega)]
      · rw [if_neg h3, if_neg (by omega)]
theorem empTo_l (k : Nat) : ∀ a ∈ empTo k, (bytesV a).length = 32 := fun a ha => h32_len ((empTo_ok k).mem a ha)

/- sponsion/sponsionref06.Empties -/
theorem empties_ok (w : World) (hR : TabR w) :
    Gives Tryd.prog 45 #[] w fun u w1 => u = .agg (empC (empTo 33)).toArray ∧ Keep nof w w1 := by
  have M0 := Mem.start w nof
  have he33 := empTo_ok 33
  refine Gives.enter (n := 21) Tryd.func45 rfl Tryd.ntmps45 rfl (env := []) rfl ?_
  refine WC.seq ?_
  refine WC.region ?_
  refine WL.ac rfl rfl rfl (Ac.alloc M0 (l := empC emp0) (by kernel_rfl)) ?_; rintro v1 w1 ⟨g1, rfl, hg1, K1, M1⟩
  refine WL.nil ?_
  refine WX.next (?_)
  refine WC.seq ?_
  refine WC.region ?_
  refine WL.ac rfl rfl rfl (Ac.alloc M1 (l := empC emp0) (by kernel_rfl)) ?_; rintro v2 w2 ⟨ge, rfl, hg2, K2, M2⟩
  rw [← empTo_0] at M2
  refine WL.nil ?_
  refine WX.next (?_)
  refine WC.seq ?_
  refine WC.region ?_
  refine WL.ac rfl rfl rfl (Ac.call rfl Tryd.func79 nm79 rfl (refOf_ok w2 2 _ _ [] (by decide) (Rd.nil _ _) (hR.keep0 M2.keep) (by simp) (by decide) (by decide))) ?_; rintro v3 w3 ⟨rfl, K3⟩
  rw [show dOf 2 [] = emptyH 0 from rfl]
  have M3 := M2.step K3
  refine WL.ex rfl rfl rfl (Ex.iaA Tryd.underlying98 sz31 rfl rfl ⟨by omega, by omega⟩) ?_
  refine WL.ac0 rfl rfl (Ac.stA M3 ty31 rfl rfl rfl (h32_len (emptyH_len 0)) (bytesV_one _) (i := 0) rfl (by rw [h32_len (emptyH_len 0), emp_len (empTo_ok 0)]; first | decide | (simp only [Int.toNat_natCast]; omega))) ?_; rintro v5 w5 ⟨K5, M5⟩
  try dsimp only [List.set] at M5
  replace M5 := M5.eqv (i := 0) rfl (r' := blk ge (empC (empTo (0 + 1))) 98) (congrArg (fun x => blk ge x 98) ((flat_set (k := 32) (i := 0) (empTo_l _) (h32_len (emptyH_len 0)) (by rw [(empTo_ok _).len]; omega) (by simp only [Nat.zero_add, Int.toNat_natCast]; try rfl)).trans (congrArg empC (empTo_set (by omega)))))
  try dsimp only [List.set] at M5
  refine WL.nil ?_
  refine WX.next (?_)
  refine WC.seq ?_
  refine WC.seq ?_
  refine WC.region ?_
  refine WL.ex rfl rfl rfl (Ex.asg rfl) ?_
  refine WL.nil ?_
  refine WX.next (?_)
  refine WC.block ?_
  refine WC.loop (σ := Nat) (fun i => [(0, .pointer (some ⟨g1, 0, none⟩)), (1, .pointer (some ⟨ge, 0, none⟩)), (2, .int .i64 ((i + 1 : Nat) : Int))]) (fun i wr => i + 1 ≤ 33 ∧ Mem w wr nof [blk ge (empC (empTo (i + 1))) 98, blk g1 (empC emp0) 98]) (fun i => 33 - i) (0) ?_ (.cons rfl (.cons rfl (.cons rfl (.nil)))) ?_
  · exact ⟨by decide, M5⟩
  rintro i w7 ⟨hi, M7⟩
  refine WC.seq ?_
  refine WC.seq ?_
  refine WC.region ?_
  refine WL.ex rfl rfl rfl (Ex.mv rfl) ?_
  refine WL.ex rfl rfl rfl (Ex.leq rfl rfl) ?_
  refine WL.nil ?_
  refine WX.next (?_)
  refine WC.cond_dec rfl (fun hin => ?_) (fun hin => ?_)
  · have hi32 : i + 1 < 33 := by omega
    have hg0 := empTo_get (k := i + 1) (i := i) (by omega) (by omega)
    refine WC.skip ?_
    refine WX.next (?_)
    refine WC.seq ?_
    refine WC.block ?_
    refine WC.draw (Keep nof w7.drew) [9, 11] (.one 0 0 (.one 1 0 (.one 2 0 (.one 3 0 (.one 5 0 (.one 6 0 (.one 7 0 (.one 4 1 (.one 8 1 (.one 9 2 (.one 10 0 (.one 11 2 .nil)))))))))))) mixed (by kernel_rfl) (by kernel_rfl) (by kernel_rfl) (HQ.block (HQ.then_ (HQ.then_ (HQ.block (HQ.then_ HQ.body))))) ?_
    obtain ⟨w10, hw10⟩ : ∃ v, v = w7.drew := ⟨_, rfl⟩
    have D10 : Keep nof w7 w10 := by rw [hw10]; exact Keep.drew _ _
    have M10 := M7.step D10
    rw [← hw10]; clear hw10
    refine WP.p rfl rfl rfl rfl (fun _ => Ex.mv rfl) ?_
    refine WP.p rfl rfl rfl rfl (fun _ => Ex.mv rfl) ?_
    refine WP.p rfl rfl rfl rfl (fun _ => Ex.sub rfl rfl (c := ((i : Nat) : Int)) (by rw [i64w _ (by omega) (by omega)]; omega)) ?_
    refine WP.p rfl rfl rfl rfl (fun _ => Ex.iaA Tryd.underlying98 sz31 rfl rfl ⟨by omega, by omega⟩) ?_
    refine WP.p rfl rfl rfl rfl (fun _ => Ex.mv rfl) ?_
    refine WP.p rfl rfl rfl rfl (fun _ => Ex.sub rfl rfl (c := ((i : Nat) : Int)) (by rw [i64w _ (by omega) (by omega)]; omega)) ?_
    refine WP.p rfl rfl rfl rfl (fun _ => Ex.iaA Tryd.underlying98 sz31 rfl rfl ⟨by omega, by omega⟩) ?_
    refine WP.q (Keep.refl _ _) rfl rfl rfl rfl (fun w' hS => Ex.loadA ty31 rfl (h32_len (emptyH_len i)) ((M10.rdt (m := 32) (i := 0) rfl (flat_at (i := i) (empTo_l _) hg0 (by simp only [Nat.zero_add, Int.toNat_natCast]))).keep0 hS)) ?_
    refine WP.q (Keep.refl _ _) rfl rfl rfl rfl (fun w' hS => Ex.loadA ty31 rfl (h32_len (emptyH_len i)) ((M10.rdt (m := 32) (i := 0) rfl (flat_at (i := i) (empTo_l _) hg0 (by simp only [Nat.zero_add, Int.toNat_natCast]))).keep0 hS)) ?_
    refine WP.a rfl rfl rfl rfl (Ac.call rfl Tryd.func76 nm76 rfl (refNode_ok w10 _ _ (emptyH_len i) (emptyH_len i) (hR.keep0 M10.keep))) ?_; rintro v20 w20 ⟨rfl, K20⟩; refine .inl ⟨rfl, Keep nof w20, ?_⟩
    rw [show dNode (emptyH i) (emptyH i) = emptyH (i + 1) from rfl]
    have M20 := M10.step K20
    refine WP.p rfl rfl rfl rfl (fun _ => Ex.iaA Tryd.underlying98 sz31 rfl rfl ⟨by omega, by omega⟩) ?_
    refine WP.a0 rfl rfl rfl (Ac.stA M20 ty31 rfl rfl rfl (h32_len (emptyH_len (i + 1))) (bytesV_one _) (i := 0) rfl (by rw [h32_len (emptyH_len (i + 1)), emp_len (empTo_ok (i + 1))]; first | decide | (simp only [Int.toNat_natCast]; omega))) ?_; rintro v22 w22 ⟨K22, M22⟩; refine .inl ⟨rfl, Keep nof w22, ?_⟩
    try dsimp only [List.set] at M22
    replace M22 := M22.eqv (i := 0) rfl (r' := blk ge (empC (empTo ((i + 1) + 1))) 98) (congrArg (fun x => blk ge x 98) ((flat_set (k := 32) (i := (i + 1)) (empTo_l _) (h32_len (emptyH_len (i + 1))) (by rw [(empTo_ok _).len]; omega) (by simp only [Nat.zero_add, Int.toNat_natCast]; try rfl)).trans (congrArg empC (empTo_set (by omega)))))
    try dsimp only [List.set] at M22
    refine WP.nil ?_
    refine WX.normal_block (WX.next (?_))
    refine WC.region ?_
    refine WL.ex rfl rfl rfl (Ex.mv rfl) ?_
    refine WL.ex rfl rfl rfl (Ex.add rfl rfl (i64w _ (by omega) (by omega))) ?_
    refine WL.ex rfl rfl rfl (Ex.asg rfl) ?_
    refine WL.nil ?_
    refine WX.again (i + 1) ?_ ?_ (.cons rfl (.cons rfl (.cons rfl (.nil))))
    · (try dsimp only); omega
    · exact ⟨by omega, M22⟩
  · obtain rfl : i = 32 := by omega
    refine WC.exit ?_
    refine WX.exit_then (WX.exit_then (WX.exit_block (WX.next (?_))))
    refine WC.seq ?_
    refine WC.region ?_
    refine WL.ex rfl rfl rfl (Ex.loadA ty98 rfl (emp_len he33) (M7.rdw (i := 0) rfl)) ?_
    refine WL.ac0 rfl rfl (Ac.stA M7 ty98 rfl rfl rfl (emp_len he33) emp_one (i := 1) rfl (by rw [emp_len he33, emp_len emp0_ok]; decide)) ?_; rintro v27 w27 ⟨K27, M27⟩
    try dsimp only [List.set] at M27
    rw [splice_all _ _ (by rw [emp_len he33, emp_len emp0_ok])] at M27
    refine WL.nil ?_
    refine WX.next (?_)
    refine WC.ret ?_
    refine WX.retc rfl rfl (run_loadVarA ty98 (by exact emp_len he33) (M27.rdw (i := 1) rfl)) ?_
    exact ⟨rfl, M27.keep⟩

/- sponsion/sponsionref04.Int -/
theorem int4_ok (w : World) (a : List Nat) (ha : Int4 a) :
    Gives Tryd.prog 97 #[.agg (intV a).toArray] w fun u w1 => u = str (intB a) ∧ Keep nof w w1 := by
  have M0 := Mem.start w nof
  obtain ⟨hl4, hb4⟩ := ha
  refine Gives.enter (n := 18) Tryd.func97 rfl Tryd.ntmps97 rfl (env := [(0, .agg (intV a).toArray)]) rfl ?_
  refine WC.seq ?_
  refine WC.region ?_
  refine WL.ac rfl rfl rfl (Ac.box M0 rfl rfl) ?_; rintro v1 w1 ⟨g1, rfl, hg1, K1, M1⟩
  refine WL.ex rfl rfl rfl (Ex.asg rfl) ?_
  refine WL.nil ?_
  refine WX.next (?_)
  refine WC.seq ?_
  refine WC.draw (Keep nof w1.drew) [] (.one 0 0 (.one 3 0 (.one 7 0 (.one 11 0 (.one 1 1 (.one 4 1 (.one 8 1 (.one 12 1 (.one 2 2 (.one 5 2 (.one 6 0 (.one 9 2 (.one 10 0 (.one 13 2 (.one 14 0 (.one 15 0 .nil)))))))))))))))) mixed (by kernel_rfl) (by kernel_rfl) (by kernel_rfl) (HQ.then_ HQ.body) ?_
  obtain ⟨w3, hw3⟩ : ∃ v, v = w1.drew := ⟨_, rfl⟩
  have D3 : Keep nof w1 w3 := by rw [hw3]; exact Keep.drew _ _
  have M3 := M1.step D3
  rw [← hw3]; clear hw3
  refine WP.p rfl rfl rfl rfl (fun _ => Ex.iaA Tryd.underlying48 sz23 rfl rfl ⟨by omega, by omega⟩) ?_
  refine WP.p rfl rfl rfl rfl (fun _ => Ex.iaA Tryd.underlying48 sz23 rfl rfl ⟨by omega, by omega⟩) ?_
  refine WP.p rfl rfl rfl rfl (fun _ => Ex.iaA Tryd.underlying48 sz23 rfl rfl ⟨by omega, by omega⟩) ?_
  refine WP.p rfl rfl rfl rfl (fun _ => Ex.iaA Tryd.underlying48 sz23 rfl rfl ⟨by omega, by omega⟩) ?_
  refine WP.q (Keep.refl _ _) rfl rfl rfl rfl (fun w' hS => Ex.load ty23 rfl (v := .int .u64 ((a.getD 3 0 : Nat) : Int)) (hS.cell (M3.cell (i := 0) rfl (intV_get (by omega))) (fun f => f))) ?_
  refine WP.q (Keep.refl _ _) rfl rfl rfl rfl (fun w' hS => Ex.load ty23 rfl (v := .int .u64 ((a.getD 2 0 : Nat) : Int)) (hS.cell (M3.cell (i := 0) rfl (intV_get (by omega))) (fun f => f))) ?_
  refine WP.q (Keep.refl _ _) rfl rfl rfl rfl (fun w' hS => Ex.load ty23 rfl (v := .int .u64 ((a.getD 1 0 : Nat) : Int)) (hS.cell (M3.cell (i := 0) rfl (intV_get (by omega))) (fun f => f))) ?_
  refine WP.q (Keep.refl _ _) rfl rfl rfl rfl (fun w' hS => Ex.load ty23 rfl (v := .int .u64 ((a.getD 0 0 : Nat) : Int)) (hS.cell (M3.cell (i := 0) rfl (intV_get (by omega))) (fun f => f))) ?_
  refine WP.as rfl rfl rfl rfl (Ac.call rfl Tryd.func96 nm96 rfl (num4_ok w3 _ 8 (hb4 3) (by omega))) ?_; rintro v12 w12 ⟨rfl, K12⟩
  refine ⟨Keep nof w12, fun u h => K12.trans h, Keep.refl _ _, ?_⟩
  have M12 := M3.step K12
  refine WP.as rfl rfl rfl rfl (Ac.call rfl Tryd.func96 nm96 rfl (num4_ok w12 _ 8 (hb4 2) (by omega))) ?_; rintro v13 w13 ⟨rfl, K13⟩
  refine ⟨Keep nof w13, fun u h => K13.trans h, Keep.refl _ _, ?_⟩
  have M13 := M12.step K13
  refine WP.p rfl rfl rfl rfl (fun _ => Ex.addS rfl rfl (by first | (simp; done) | (simp; omega) | omega)) ?_
  refine WP.as rfl rfl rfl rfl (Ac.call rfl Tryd.func96 nm96 rfl (num4_ok w13 _ 8 (hb4 1) (by omega))) ?_; rintro v15 w15 ⟨rfl, K15⟩
  refine ⟨Keep nof w15, fun u h => K15.trans h, Keep.refl _ _, ?_⟩
  have M15 := M13.step K15
  refine WP.p rfl rfl rfl rfl (fun _ => Ex.addS rfl rfl (by first | (simp; done) | (simp; omega) | omega)) ?_
  refine WP.as rfl rfl rfl rfl (Ac.call rfl Tryd.func96 nm96 rfl (num4_ok w15 _ 8 (hb4 0) (by omega))) ?_; rintro v17 w17 ⟨rfl, K17⟩
  refine ⟨Keep nof w17, fun u h => K17.trans h, Keep.refl _ _, ?_⟩
  have M17 := M15.step K17
  refine WP.p rfl rfl rfl rfl (fun _ => Ex.addS rfl rfl (by first | (simp; done) | (simp; omega) | omega)) ?_
  refine WP.p rfl rfl rfl rfl (fun _ => Ex.asg rfl) ?_
  refine WP.nil ?_
  refine WX.next (?_)
  refine WC.ret ?_
  refine WX.ret1 rfl rfl ?_
  exact ⟨congrArg str (intB_be a hl4).symm, M17.keep⟩

end Go.Proofs.YtchmjpdkonfifaaDoor
