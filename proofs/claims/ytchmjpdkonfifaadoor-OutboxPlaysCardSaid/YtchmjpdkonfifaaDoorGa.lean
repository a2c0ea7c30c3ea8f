/- Walks, written by gen.py off the translation's own print: each says what the Go function comes to. -/
import Derived.Test.YtchmjpdkonfifaaDoorFa
import Derived.Test.YtchmjpdkonfifaaDoorDa
set_option linter.unusedVariables false
set_option linter.unusedSimpArgs false
namespace Go.Proofs.YtchmjpdkonfifaaDoor
open Go.Sx Go.RowKit
attribute [local irreducible] Ac Ex WL WC WX WP Gives sha

/-- A writer at block g: the value in its field, the bytes that it has. -/
abbrev wrR (g : Nat) (v : Value) (l : List UInt8) : Res := box1 g (fun v => [v]) 142 v 5 1 l.length (bytesV l)

/- (*sponsion/pack.Writer).num -/
theorem wnum_ok (w : World) (g : Nat) (v : Value) (l : List UInt8) (x : Nat) (size : Nat) (h : (wrR g v l).sat w) (hs : size ≤ 8) (hx : x < 18446744073709551616) (hb : l.length ≤ 35184372088832) :
    Gives Tryd.prog 117 #[.pointer (some ⟨g, 0, none⟩), .int .u64 (x : Int), .int .i64 (size : Int)] w fun u w' => u = .pointer (some ⟨g, 0, none⟩) ∧ ∃ v', Turn w w' (wrR g v l) (wrR g v' (l ++ be size x)) := by
  have M0 := (Mem.begin h).open1
  refine Gives.enter (n := 29) Tryd.func117 rfl Tryd.ntmps117 rfl (env := [(0, .pointer (some ⟨g, 0, none⟩)), (1, .int .u64 (x : Int)), (2, .int .i64 (size : Int))]) rfl ?_
  refine WC.seq ?_
  refine WC.region ?_
  refine WL.ex rfl rfl rfl (Ex.asg rfl) ?_
  refine WL.nil ?_
  refine WX.next (?_)
  refine WC.seq ?_
  refine WC.seq ?_
  refine WC.region ?_
  refine WL.ex rfl rfl rfl (Ex.mv rfl) ?_
  refine WL.ex rfl rfl rfl (Ex.sub rfl rfl (i64w _ (by omega) (by omega))) ?_
  refine WL.ex rfl rfl rfl (Ex.asg rfl) ?_
  refine WL.nil ?_
  refine WX.next (?_)
  refine WC.block ?_
  refine WC.loop (σ := Nat) (fun s => [(0, .pointer (some ⟨g, 0, none⟩)), (1, .int .u64 (x : Int)), (7, .int .i64 ((s : Int) - 1))]) (fun s wr => ∃ v1 l1, s ≤ size ∧ l1 ++ be s x = l ++ be size x ∧ Mem w wr (· ∈ (wrR g v l).fp) [blk g [v1] 142, row v1 5 1 l1.length (bytesV l1)]) (fun s => s) (size) ?_ (.cons rfl (.cons rfl (.cons rfl (.nil)))) ?_
  · exact ⟨v, l, Nat.le_refl _, rfl, M0⟩
  rintro s w5 ⟨v1, l1, hs1, hl1, M5⟩
  refine WC.seq ?_
  refine WC.seq ?_
  refine WC.region ?_
  refine WL.ex rfl rfl rfl (Ex.mv rfl) ?_
  refine WL.ex rfl rfl rfl (Ex.geq rfl rfl) ?_
  refine WL.nil ?_
  refine WX.next (?_)
  refine WC.cond_dec rfl (fun hc11 => ?_) (fun hc11 => ?_)
  · obtain ⟨j, rfl⟩ : ∃ j, s = j + 1 := ⟨s - 1, by omega⟩
    have hlen : l1.length + (j + 1) = l.length + size := by have := congrArg List.length hl1; simpa using this
    refine WC.sub (env' := [(0, .pointer (some ⟨g, 0, none⟩)), (1, .int .u64 (x : Int)), (7, .int .i64 (j : Int))]) (.cons rfl (.cons rfl (.cons (congrArg some (congrArg (Value.int .i64) (by omega))) .nil))) ?_
    refine WC.skip ?_
    refine WX.next (?_)
    refine WC.seq ?_
    refine WC.block ?_
    refine WC.draw (Keep nof w5.drew) [11, 14] (.one 0 0 (.one 1 0 (.one 2 0 (.one 3 0 (.one 5 0 (.one 6 0 (.one 7 0 (.one 8 0 (.one 9 0 (.one 4 1 (.one 10 2 (.one 11 2 (.one 12 0 (.one 13 0 (.one 14 2 .nil))))))))))))))) mixed (by kernel_rfl) (by kernel_rfl) (by kernel_rfl) (HQ.block (HQ.then_ (HQ.then_ (HQ.block (HQ.then_ HQ.body))))) ?_
    obtain ⟨w8, hw8⟩ : ∃ v, v = w5.drew := ⟨_, rfl⟩
    have D8 : Keep nof w5 w8 := by rw [hw8]; exact Keep.drew _ _
    have M8 := M5.step D8
    rw [← hw8]; clear hw8
    refine WP.p rfl rfl rfl rfl (fun _ => Ex.mv rfl) ?_
    refine WP.p rfl rfl rfl rfl (fun _ => Ex.mv rfl) ?_
    refine WP.p rfl rfl rfl rfl (fun _ => Ex.nilc rfl) ?_
    refine WP.p rfl rfl rfl rfl (fun _ => Ex.fa fl142_0 rfl) ?_
    refine WP.p rfl rfl rfl rfl (fun _ => Ex.mv rfl) ?_
    refine WP.p rfl rfl rfl rfl (fun _ => Ex.mv rfl) ?_
    refine WP.p rfl rfl rfl rfl (fun _ => Ex.mul rfl rfl (i64w _ (by omega) (by omega))) ?_
    refine WP.p rfl rfl rfl rfl (fun _ => Ex.shr rfl rfl (m := 8 * j) (by omega) (shrN _ _ _ (by simp [IntKind.bits]; omega))) ?_
    refine WP.p rfl rfl rfl rfl (fun _ => Ex.cvI Tryd.underlying23 Tryd.underlying5 rfl (u8b _)) ?_
    refine WP.q (Keep.refl _ _) rfl rfl rfl rfl (fun w' hS => Ex.load ty112 rfl (hS.cell (M8.cell (i := 0) rfl rfl) (fun f => f))) ?_
    refine WP.as rfl rfl rfl rfl (Ac.bs M8 (parts := [(0, .tmp 23)]) rfl rfl (LitS.one el112 rfl)) ?_; rintro v19 w19 ⟨g19, rfl, hg19, K19, M19⟩
    refine ⟨Keep nof w19, fun u h => K19.trans h, Keep.refl _ _, ?_⟩
    refine WP.a rfl rfl rfl rfl (Ac.app M19 el112 rfl rfl (i := 2) rfl rfl (M19.rdw (i := 0) rfl) (by simp [Value.oneCell']) (by simp; omega) (by simp [maxLen]; omega)) ?_; rintro v20 w20 ⟨K20, M20⟩; refine .inl ⟨rfl, Keep nof w20, ?_⟩
    try dsimp only [List.set] at M20
    rw [bytesV_snoc, len_snoc l1 (UInt8.ofNat (x / 2 ^ (8 * j)))] at M20
    obtain ⟨A20, c20, rfl⟩ := own_slice (M20.get (i := 2) rfl)
    refine WP.p rfl rfl rfl rfl (fun _ => Ex.nilc rfl) ?_
    refine WP.p rfl rfl rfl rfl (fun _ => Ex.fa fl142_0 rfl) ?_
    refine WP.a0 rfl rfl rfl (Ac.st M20 ty112 rfl rfl rfl (i := 1) rfl (by simp)) ?_; rintro v23 w23 ⟨K23, M23⟩; refine .inl ⟨rfl, Keep nof w23, ?_⟩
    try dsimp only [List.set] at M23
    refine WP.nil ?_
    refine WX.normal_block (WX.next (?_))
    refine WC.region ?_
    refine WL.ex rfl rfl rfl (Ex.mv rfl) ?_
    refine WL.ex rfl rfl rfl (Ex.sub rfl rfl (i64w _ (by omega) (by omega))) ?_
    refine WL.ex rfl rfl rfl (Ex.asg rfl) ?_
    refine WL.nil ?_
    refine WX.again (j) ?_ ?_ (.cons rfl (.cons rfl (.cons rfl (.nil))))
    · (try dsimp only); omega
    · exact ⟨_, _, by omega, by rw [← hl1]; simp [be], M23.drop1⟩
  · obtain rfl : s = 0 := by omega
    refine WC.exit ?_
    refine WX.exit_then (WX.exit_then (WX.exit_block (WX.next (?_))))
    refine WC.seq ?_
    refine WC.region ?_
    refine WL.ex rfl rfl rfl (Ex.mv rfl) ?_
    refine WL.ex rfl rfl rfl (Ex.asg rfl) ?_
    refine WL.nil ?_
    refine WX.next (?_)
    refine WC.ret ?_
    refine WX.ret1 rfl rfl ?_
    obtain rfl : l1 = l ++ be size x := by simpa [be] using hl1
    exact ⟨rfl, v1, (M5.close1 (fun v => [v])).toTurn⟩

/- (*sponsion/pack.Writer).U8 -/
theorem wU8_ok (w : World) (g : Nat) (v : Value) (l : List UInt8) (x : Nat) (h : (wrR g v l).sat w) (hx : x < 256) (hb : l.length ≤ 35184372088832) :
    Gives Tryd.prog 103 #[.pointer (some ⟨g, 0, none⟩), .int .u8 (x : Int)] w fun u w' => u = .pointer (some ⟨g, 0, none⟩) ∧ ∃ v', Turn w w' (wrR g v l) (wrR g v' (l ++ be 1 x)) := by
  have M0 := Mem.begin h
  refine Gives.enter (n := 9) Tryd.func103 rfl Tryd.ntmps103 rfl (env := [(0, .pointer (some ⟨g, 0, none⟩)), (1, .int .u8 (x : Int))]) rfl ?_
  refine WC.seq ?_
  refine WC.region ?_
  refine WL.ex rfl rfl rfl (Ex.asg rfl) ?_
  refine WL.nil ?_
  refine WX.next (?_)
  refine WC.seq ?_
  refine WC.region ?_
  refine WL.ex rfl rfl rfl (Ex.mv rfl) ?_
  refine WL.ex rfl rfl rfl (Ex.mv rfl) ?_
  refine WL.ex rfl rfl rfl (Ex.cvI Tryd.underlying5 Tryd.underlying23 rfl (by first | exact u64w_lt _ (by omega) | exact u64w _)) ?_
  refine WL.ac rfl rfl rfl (Ac.call rfl Tryd.func117 nm117 rfl (wnum_ok w g v l x 1 (M0.get (i := 0) rfl) (by omega) (by omega) hb)) ?_; rintro v5 w5 ⟨rfl, v', T5⟩
  have M5 := M0.turned (i := 0) rfl T5
  refine WL.ex rfl rfl rfl (Ex.asg rfl) ?_
  refine WL.nil ?_
  refine WX.next (?_)
  refine WC.ret ?_
  refine WX.ret1 rfl rfl ?_
  exact ⟨rfl, v', T5⟩

/- (*sponsion/pack.Writer).U32 -/
theorem wU32_ok (w : World) (g : Nat) (v : Value) (l : List UInt8) (x : Nat) (h : (wrR g v l).sat w) (hx : x < 4294967296) (hb : l.length ≤ 35184372088832) :
    Gives Tryd.prog 102 #[.pointer (some ⟨g, 0, none⟩), .int .u32 (x : Int)] w fun u w' => u = .pointer (some ⟨g, 0, none⟩) ∧ ∃ v', Turn w w' (wrR g v l) (wrR g v' (l ++ be 4 x)) := by
  have M0 := Mem.begin h
  refine Gives.enter (n := 9) Tryd.func102 rfl Tryd.ntmps102 rfl (env := [(0, .pointer (some ⟨g, 0, none⟩)), (1, .int .u32 (x : Int))]) rfl ?_
  refine WC.seq ?_
  refine WC.region ?_
  refine WL.ex rfl rfl rfl (Ex.asg rfl) ?_
  refine WL.nil ?_
  refine WX.next (?_)
  refine WC.seq ?_
  refine WC.region ?_
  refine WL.ex rfl rfl rfl (Ex.mv rfl) ?_
  refine WL.ex rfl rfl rfl (Ex.mv rfl) ?_
  refine WL.ex rfl rfl rfl (Ex.cvI Tryd.underlying46 Tryd.underlying23 rfl (by first | exact u64w_lt _ (by omega) | exact u64w _)) ?_
  refine WL.ac rfl rfl rfl (Ac.call rfl Tryd.func117 nm117 rfl (wnum_ok w g v l x 4 (M0.get (i := 0) rfl) (by omega) (by omega) hb)) ?_; rintro v5 w5 ⟨rfl, v', T5⟩
  have M5 := M0.turned (i := 0) rfl T5
  refine WL.ex rfl rfl rfl (Ex.asg rfl) ?_
  refine WL.nil ?_
  refine WX.next (?_)
  refine WC.ret ?_
  refine WX.ret1 rfl rfl ?_
  exact ⟨rfl, v', T5⟩

/- (*sponsion/pack.Writer).Raw -/
theorem wRaw_ok (w : World) (g : Nat) (v : Value) (l : List UInt8) (A : Option Addr) (c : Nat) (m : List UInt8) (h : (wrR g v l).sat w) (hr : Rd w A (bytesV m)) (hb : l.length ≤ 35184372088832) (hm : m.length ≤ 35184372088832) :
    Gives Tryd.prog 116 #[.pointer (some ⟨g, 0, none⟩), .slice A m.length c] w fun u w' => u = .pointer (some ⟨g, 0, none⟩) ∧ ∃ v', Turn w w' (wrR g v l) (wrR g v' (l ++ m)) := by
  have M0 := (Mem.begin h).open1
  refine Gives.enter (n := 15) Tryd.func116 rfl Tryd.ntmps116 rfl (env := [(0, .pointer (some ⟨g, 0, none⟩)), (1, .slice A m.length c)]) rfl ?_
  refine WC.seq ?_
  refine WC.region ?_
  refine WL.ex rfl rfl rfl (Ex.asg rfl) ?_
  refine WL.nil ?_
  refine WX.next (?_)
  refine WC.seq ?_
  refine WC.region ?_
  refine WL.ex rfl rfl rfl (Ex.mv rfl) ?_
  refine WL.ex rfl rfl rfl (Ex.mv rfl) ?_
  refine WL.ex rfl rfl rfl (Ex.nilc rfl) ?_
  refine WL.ex rfl rfl rfl (Ex.fa fl142_0 rfl) ?_
  refine WL.ex rfl rfl rfl (Ex.load ty112 rfl (M0.cell (i := 0) rfl rfl)) ?_
  refine WL.ex rfl rfl rfl (Ex.mv rfl) ?_
  refine WL.ac rfl rfl rfl (Ac.app M0 el112 rfl rfl (i := 1) rfl (by simp) hr (bytesV_one _) (by omega) (by simp [maxLen]; omega)) ?_; rintro v8 w8 ⟨K8, M8⟩
  try dsimp only [List.set] at M8
  rw [← bytesV_append, len_app l m] at M8
  obtain ⟨A8, c8, rfl⟩ := own_slice (M8.get (i := 1) rfl)
  refine WL.ex rfl rfl rfl (Ex.nilc rfl) ?_
  refine WL.ex rfl rfl rfl (Ex.fa fl142_0 rfl) ?_
  refine WL.ac0 rfl rfl (Ac.st M8 ty112 rfl rfl rfl (i := 0) rfl (by simp)) ?_; rintro v11 w11 ⟨K11, M11⟩
  try dsimp only [List.set] at M11
  refine WL.nil ?_
  refine WX.next (?_)
  refine WC.seq ?_
  refine WC.region ?_
  refine WL.ex rfl rfl rfl (Ex.mv rfl) ?_
  refine WL.ex rfl rfl rfl (Ex.asg rfl) ?_
  refine WL.nil ?_
  refine WX.next (?_)
  refine WC.ret ?_
  refine WX.ret1 rfl rfl ?_
  exact ⟨rfl, _, (M11.close1 (fun v => [v])).toTurn⟩

/- (*sponsion/pack.Writer).Bytes -/
theorem wBytes_ok (w : World) (g : Nat) (v : Value) (l : List UInt8) (h : (wrR g v l).sat w) (hb : l.length ≤ 35184372088832) :
    Gives Tryd.prog 87 #[.pointer (some ⟨g, 0, none⟩)] w fun u w' => New w w' (row u 5 1 l.length (bytesV l)) := by
  obtain ⟨A, c, rfl⟩ := own_slice h.2.1
  have M0 := (Mem.begin h).open1
  refine Gives.enter (n := 8) Tryd.func87 rfl Tryd.ntmps87 rfl (env := [(0, .pointer (some ⟨g, 0, none⟩))]) rfl ?_
  refine WC.seq ?_
  refine WC.region ?_
  refine WL.ex rfl rfl rfl (Ex.asg rfl) ?_
  refine WL.nil ?_
  refine WX.next (?_)
  refine WC.seq ?_
  refine WC.region ?_
  refine WL.ex rfl rfl rfl (Ex.mv rfl) ?_
  refine WL.ex rfl rfl rfl (Ex.nilc rfl) ?_
  refine WL.ex rfl rfl rfl (Ex.fa fl142_0 rfl) ?_
  refine WL.ex rfl rfl rfl (Ex.load ty112 rfl (M0.cell (i := 0) rfl rfl)) ?_
  refine WL.ac rfl rfl rfl (Ac.call rfl Tryd.func105 nm105 rfl (clone_ok w A c l (M0.rdr (i := 1) rfl) (by omega))) ?_; rintro v6 w6 N6
  have M6 := M0.new N6
  refine WL.ex rfl rfl rfl (Ex.asg rfl) ?_
  refine WL.nil ?_
  refine WX.next (?_)
  refine WC.ret ?_
  refine WX.ret1 rfl rfl ?_
  exact N6

/- sponsion/domain.Text -/
theorem text_ok (w : World) (tag : Nat) (A : Option Addr) (c : Nat) (ps : List SV) (ht : tag < 256) (hr : RdP w A ps) (hp : ∀ p ∈ ps, p.l.length < 4294967296) (hb : (txt tag (ps.map (·.l))).length ≤ 35184372088832) :
    Gives Tryd.prog 101 #[.int .u8 (tag : Int), .slice A ps.length c] w fun u w1 => New w w1 (row u 5 1 (txt tag (ps.map (·.l))).length (bytesV (txt tag (ps.map (·.l))))) := by
  have hlen : ps.length ≤ 35184372088832 := by
    rw [txt_length] at hb
    have h4 : ∀ l : List SV, 4 * l.length ≤ ((l.map (·.l)).map fun p => p.length + 4).sum := by
      intro l
      induction l with
      | nil => simp
      | cons a r ih => simp only [List.map_cons, List.sum_cons, List.length_cons]; omega
    have := h4 ps
    omega
  have M0 := (Mem.start w nof).free (r := row (.slice none 0 0) 5 1 ([] : List UInt8).length (bytesV [])) (row_nil _ _ _) rfl
  refine Gives.enter (n := 28) Tryd.func101 rfl Tryd.ntmps101 rfl (env := [(0, .int .u8 (tag : Int)), (1, .slice A ps.length c)]) rfl ?_
  refine WC.seq ?_
  refine WC.region ?_
  refine WL.ex rfl rfl rfl (Ex.asg rfl) ?_
  refine WL.nil ?_
  refine WX.next (?_)
  refine WC.seq ?_
  refine WC.region ?_
  refine WL.ex rfl rfl rfl (Ex.bld bd142 (parts := []) rfl rfl rfl rfl) ?_
  refine WL.ac rfl rfl rfl (Ac.box M0 rfl rfl) ?_; rintro v3 w3 ⟨g, rfl, hg3, K3, M3⟩
  have M3 := M3.close1 (fun v => [v])
  refine WL.ex rfl rfl rfl (Ex.mv rfl) ?_
  refine WL.ac rfl rfl rfl (Ac.call rfl Tryd.func103 nm103 rfl (wU8_ok w3 g _ [] tag (M3.get (i := 0) rfl) ht (by simp))) ?_; rintro v5 w5 ⟨rfl, v1, T5⟩
  have M5 := M3.turned (i := 0) rfl T5
  try dsimp only [List.set] at M5
  refine WL.ex rfl rfl rfl (Ex.asg rfl) ?_
  refine WL.nil ?_
  refine WX.next (?_)
  refine WC.seq ?_
  refine WC.seq ?_
  refine WC.region ?_
  refine WL.ex rfl rfl rfl (Ex.mv rfl) ?_
  refine WL.ex rfl rfl rfl (Ex.len Tryd.underlying153 rfl) ?_
  refine WL.ex rfl rfl rfl (Ex.mv rfl) ?_
  refine WL.nil ?_
  refine WX.next (?_)
  refine WC.block ?_
  refine WC.loop (σ := Nat) (fun i => [(5, .pointer (some ⟨g, 0, none⟩)), (12, .slice A ps.length c), (13, .int .i64 (ps.length : Int)), (14, .int .i64 (i : Int))]) (fun i wr => i ≤ ps.length ∧ ∃ v, Mem w wr nof [wrR g v (txt tag ((ps.map (·.l)).take i))]) (fun i => ps.length - i) (0) ?_ (.cons rfl (.cons rfl (.cons rfl (.cons rfl (.nil))))) ?_
  · exact ⟨by omega, v1, M5⟩
  rintro i w10 ⟨hi, v, M10⟩
  refine WC.seq ?_
  refine WC.region ?_
  refine WL.ex rfl rfl rfl (Ex.lss rfl rfl) ?_
  refine WL.nil ?_
  refine WX.next (?_)
  refine WC.seq ?_
  refine WC.cond_dec rfl (fun hc15 => ?_) (fun hc15 => ?_)
  · obtain ⟨p, hpi⟩ : ∃ p, ps[i]? = some p := ⟨_, List.getElem?_eq_getElem (by omega)⟩
    have hpm : p ∈ ps := List.mem_of_getElem? hpi
    have hp4 := hp p hpm
    have hacc := txt_take_le tag (ps.map (·.l)) i
    have hacc1 := txt_take_le tag (ps.map (·.l)) (i + 1)
    have hsn : (ps.map (·.l)).take (i + 1) = (ps.map (·.l)).take i ++ [p.l] := take_snoc (by simp [hpi])
    rw [hsn, txt_snoc] at hacc1
    simp only [List.length_append, be_length] at hacc1
    obtain ⟨b, o, hA, _⟩ := hr.1.plain (by simp; omega)
    subst hA
    refine WC.skip ?_
    refine WX.next (?_)
    refine WC.seq ?_
    refine WC.block ?_
    refine WC.seq ?_
    refine WC.region ?_
    refine WL.ex rfl rfl rfl (Ex.ia Tryd.underlying153 sz112 rfl rfl ⟨by omega, by omega⟩) ?_
    refine WL.ex rfl rfl rfl (Ex.load ty112 rfl (Rd.at1 (u := svV p) (hr.keep M10.keep).1 (j := (i : Int).toNat * 1) (by simp [hpi]))) ?_
    refine WL.ex rfl rfl rfl (Ex.asg rfl) ?_
    refine WL.nil ?_
    refine WX.next (?_)
    refine WC.region ?_
    refine WL.ex rfl rfl rfl (Ex.mv rfl) ?_
    refine WL.ex rfl rfl rfl (Ex.mv rfl) ?_
    refine WL.ex rfl rfl rfl (Ex.len Tryd.underlying112 rfl) ?_
    refine WL.ex rfl rfl rfl (Ex.cvI Tryd.underlying3 Tryd.underlying46 rfl (by first | exact u32w_lt _ (by omega) | exact u32w _)) ?_
    refine WL.ac rfl rfl rfl (Ac.call rfl Tryd.func102 nm102 rfl (wU32_ok w10 g v _ p.l.length (M10.get (i := 0) rfl) hp4 (by omega))) ?_; rintro v19 w19 ⟨rfl, v2, T19⟩
    have M19 := M10.turned (i := 0) rfl T19
    try dsimp only [List.set] at M19
    refine WL.ex rfl rfl rfl (Ex.mv rfl) ?_
    refine WL.ac rfl rfl rfl (Ac.call rfl Tryd.func116 nm116 rfl (wRaw_ok w19 g v2 _ p.A p.c p.l (M19.get (i := 0) rfl) ((hr.keep M19.keep).2 p hpm) (by simp only [List.length_append, be_length]; omega) (by omega))) ?_; rintro v21 w21 ⟨rfl, v3, T21⟩
    have M21 := M19.turned (i := 0) rfl T21
    try dsimp only [List.set] at M21
    rw [← txt_snoc, ← hsn] at M21
    refine WL.nil ?_
    refine WX.normal_block (WX.next (?_))
    refine WC.region ?_
    refine WL.ex rfl rfl rfl (Ex.add rfl rfl (i64w _ (by omega) (by omega))) ?_
    refine WL.ex rfl rfl rfl (Ex.mv rfl) ?_
    refine WL.nil ?_
    refine WX.again (i + 1) ?_ ?_ (.cons rfl (.cons rfl (.cons rfl (.cons rfl (.nil)))))
    · (try dsimp only); omega
    · exact ⟨by omega, v3, M21⟩
  · obtain rfl : i = ps.length := by omega
    refine WC.exit ?_
    refine WX.exit_then (WX.exit_then (WX.exit_block (WX.next (?_))))
    refine WC.seq ?_
    refine WC.region ?_
    refine WL.ex rfl rfl rfl (Ex.mv rfl) ?_
    refine WL.ac rfl rfl rfl (Ac.call rfl Tryd.func87 nm87 rfl (wBytes_ok w10 g v _ (M10.get (i := 0) rfl) (by rw [List.take_of_length_le (by simp)]; exact hb))) ?_; rintro v25 w25 N25
    have M25 := M10.new N25
    rw [List.take_of_length_le (by simp)] at M25
    refine WL.ex rfl rfl rfl (Ex.asg rfl) ?_
    refine WL.nil ?_
    refine WX.next (?_)
    refine WC.ret ?_
    refine WX.ret1 rfl rfl ?_
    exact M25.toNew

/-- The sums of the document. -/
def dOf (tag : Nat) (ps : List (List UInt8)) : List UInt8 := sha (txt tag ps)
def dLeaf (b : List UInt8) : List UInt8 := dOf 0 [b]
def dNode (l r : List UInt8) : List UInt8 := dOf 1 [l, r]
def emptyH : Nat → List UInt8
  | 0 => dOf 2 []
  | n + 1 => dNode (emptyH n) (emptyH n)
theorem dOf_len (tag : Nat) (ps : List (List UInt8)) : H32 (dOf tag ps) := sha_length _
theorem dNode_len (l r : List UInt8) : H32 (dNode l r) := sha_length _
theorem dLeaf_len (b : List UInt8) : H32 (dLeaf b) := sha_length _
theorem emptyH_len : ∀ n, H32 (emptyH n)
  | 0 => sha_length _
  | _ + 1 => sha_length _
def lvl (z : Int) : Nat := (max 0 (min z 32)).toNat
theorem lvl_le (z : Int) : lvl z ≤ 32 := by unfold lvl; omega
theorem txt_1 (tag : Nat) (b : List UInt8) : (txt tag [b]).length = 5 + b.length := by rw [txt_length]; simp; omega
theorem txt_2 (tag : Nat) (b c : List UInt8) : (txt tag [b, c]).length = 9 + b.length + c.length := by rw [txt_length]; simp; omega
theorem RdP.nil (w : World) (A : Option Addr) : RdP w A [] := ⟨Rd.nil _ _, fun p hp => by cases hp⟩
theorem str_one (l : List UInt8) : (str l).oneCell' = true := rfl

/- sponsion/huge.Bytes -/
theorem hBytes_ok (w : World) (a : List Nat) (ha : Int4 a) :
    Gives Tryd.prog 118 #[.agg (intV a).toArray] w fun u w1 => u = .agg (bytesV (intB a)).toArray ∧ Keep nof w w1 := by
  have M0 := Mem.start w nof
  obtain ⟨hl4, hb4⟩ := ha
  refine Gives.enter (n := 24) Tryd.func118 rfl Tryd.ntmps118 rfl (env := [(0, .agg (intV a).toArray)]) rfl ?_
  refine WC.seq ?_
  refine WC.region ?_
  refine WL.ac rfl rfl rfl (Ac.box M0 rfl rfl) ?_; rintro v1 w1 ⟨g1, rfl, hg1, K1, M1⟩
  refine WL.ac rfl rfl rfl (Ac.alloc M1 (l := bytesV (List.replicate 32 0)) (by kernel_rfl)) ?_; rintro v2 w2 ⟨g2, rfl, hg2, K2, M2⟩
  refine WL.nil ?_
  refine WX.next (?_)
  refine WC.seq ?_
  refine WC.region ?_
  refine WL.ac rfl rfl rfl (Ac.alloc M2 (l := bytesV (List.replicate 32 0)) (by kernel_rfl)) ?_; rintro v3 w3 ⟨g3, rfl, hg3, K3, M3⟩
  refine WL.nil ?_
  refine WX.next (?_)
  refine WC.seq ?_
  refine WC.seq ?_
  refine WC.region ?_
  refine WL.ex rfl rfl rfl (Ex.mv rfl) ?_
  refine WL.nil ?_
  refine WX.next (?_)
  refine WC.block ?_
  refine WC.loop (σ := Nat) (fun i => [(1, .pointer (some ⟨g1, 0, none⟩)), (2, .pointer (some ⟨g2, 0, none⟩)), (3, .pointer (some ⟨g3, 0, none⟩)), (6, .int .i64 (i : Int))]) (fun i wr => i ≤ 32 ∧ Mem w wr nof [blk g3 (bytesV (fillTo 32 i (fun i => UInt8.ofNat (a.getD ((31 - i) / 8) 0 / 2 ^ (8 * ((31 - i) % 8)))) 0)) 30, blk g2 (bytesV (List.replicate 32 0)) 30, blk g1 (intV a) 48]) (fun i => 32 - i) (0) ?_ (.cons rfl (.cons rfl (.cons rfl (.cons rfl (.nil))))) ?_
  · exact ⟨by omega, by rw [fillTo_zero]; exact M3⟩
  rintro i w5 ⟨hi, M5⟩
  refine WC.seq ?_
  refine WC.region ?_
  refine WL.ex rfl rfl rfl (Ex.lss rfl rfl) ?_
  refine WL.nil ?_
  refine WX.next (?_)
  refine WC.seq ?_
  refine WC.cond_dec rfl (fun hc7 => ?_) (fun hc7 => ?_)
  · skip
    refine WC.skip ?_
    refine WX.next (?_)
    refine WC.seq ?_
    refine WC.block ?_
    refine WC.seq ?_
    refine WC.region ?_
    refine WL.ex rfl rfl rfl (Ex.mv rfl) ?_
    refine WL.ex rfl rfl rfl (Ex.asg rfl) ?_
    refine WL.nil ?_
    refine WX.next (?_)
    refine WC.seq ?_
    refine WC.region ?_
    refine WL.ex rfl rfl rfl (Ex.mv rfl) ?_
    refine WL.ex rfl rfl rfl (Ex.sub rfl rfl (c := ((31 - i : Nat) : Int)) (by rw [i64w _ (by omega) (by omega)]; omega)) ?_
    refine WL.ex rfl rfl rfl (Ex.asg rfl) ?_
    refine WL.nil ?_
    refine WX.next (?_)
    refine WC.region ?_
    refine WL.ex rfl rfl rfl (Ex.mv rfl) ?_
    refine WL.ex rfl rfl rfl (Ex.mv rfl) ?_
    refine WL.ex rfl rfl rfl (Ex.quo rfl rfl (by decide) (c := (((31 - i) / 8 : Nat) : Int)) (by rw [IntWalk.i64_quo _ _ (by omega)]; omega)) ?_
    refine WL.ex rfl rfl rfl (Ex.iaA Tryd.underlying48 sz23 rfl rfl ⟨by omega, by omega⟩) ?_
    refine WL.ex rfl rfl rfl (Ex.load ty23 rfl (M5.cell (i := 2) (v := .int .u64 ((a.getD ((31 - i) / 8) 0 : Nat) : Int)) rfl (by simp only [Int.toNat_natCast, Nat.mul_one, Nat.zero_add]; exact intV_get (by omega)))) ?_
    refine WL.ex rfl rfl rfl (Ex.mv rfl) ?_
    refine WL.ex rfl rfl rfl (Ex.rem rfl rfl (by decide) (c := (((31 - i) % 8 : Nat) : Int)) (by rw [Int.tmod_eq_emod_of_nonneg (by omega)]; omega)) ?_
    refine WL.ex rfl rfl rfl (Ex.mul rfl rfl (c := ((8 * ((31 - i) % 8) : Nat) : Int)) (by rw [i64w _ (by omega) (by omega)]; omega)) ?_
    refine WL.ex rfl rfl rfl (Ex.shr rfl rfl (m := 8 * ((31 - i) % 8)) rfl (shrN _ _ _ (by simp [IntKind.bits]; omega))) ?_
    refine WL.ex rfl rfl rfl (Ex.cvI Tryd.underlying23 Tryd.underlying5 rfl (u8b _)) ?_
    refine WL.ex rfl rfl rfl (Ex.iaA Tryd.underlying30 sz5 rfl rfl ⟨by omega, by omega⟩) ?_
    refine WL.ac0 rfl rfl (Ac.st M5 ty5 rfl rfl rfl (i := 0) rfl (by simp; omega)) ?_; rintro v23 w23 ⟨K23, M23⟩
    try dsimp only [List.set] at M23
    simp only [Int.toNat_natCast, Nat.mul_one, Nat.zero_add] at M23
    rw [bytesV_set, fillTo_set 32 i (fun i => UInt8.ofNat (a.getD ((31 - i) / 8) 0 / 2 ^ (8 * ((31 - i) % 8))))] at M23
    refine WL.nil ?_
    refine WX.normal_block (WX.next (?_))
    refine WC.region ?_
    refine WL.ex rfl rfl rfl (Ex.add rfl rfl (i64w _ (by omega) (by omega))) ?_
    refine WL.ex rfl rfl rfl (Ex.mv rfl) ?_
    refine WL.nil ?_
    refine WX.again (i + 1) ?_ ?_ (.cons rfl (.cons rfl (.cons rfl (.cons rfl (.nil)))))
    · (try dsimp only); omega
    · exact ⟨by omega, M23⟩
  · obtain rfl : i = 32 := by omega
    rw [fillTo_full 32 32 (Nat.le_refl _)] at M5
    refine WC.exit ?_
    refine WX.exit_then (WX.exit_then (WX.exit_block (WX.next (?_))))
    refine WC.seq ?_
    refine WC.region ?_
    refine WL.ex rfl rfl rfl (Ex.loadA ty30 rfl (l := bytesV (intB a)) (by simp) (M5.rdw (i := 0) rfl)) ?_
    refine WL.ac0 rfl rfl (Ac.stA M5 ty30 rfl rfl (vs := bytesV (intB a)) rfl (by simp) (bytesV_one _) (i := 1) rfl (by simp)) ?_; rintro v27 w27 ⟨K27, M27⟩
    try dsimp only [List.set] at M27
    rw [splice_all _ _ (by simp)] at M27
    refine WL.nil ?_
    refine WX.next (?_)
    refine WC.ret ?_
    refine WX.retc rfl rfl (run_loadVarA ty30 (l := bytesV (intB a)) (by simp) (M27.rdw (i := 1) rfl)) ?_
    exact ⟨rfl, M27.keep⟩

/- (*sponsion/pack.Writer).Int -/
theorem wInt_ok (w : World) (g : Nat) (v : Value) (l : List UInt8) (a : List Nat) (h : (wrR g v l).sat w) (ha : Int4 a) (hb : l.length ≤ 35184372088832) :
    Gives Tryd.prog 104 #[.pointer (some ⟨g, 0, none⟩), .agg (intV a).toArray] w fun u w1 => u = .pointer (some ⟨g, 0, none⟩) ∧ ∃ v1, Turn w w1 (wrR g v l) (wrR g v1 (l ++ intB a)) := by
  have M0 := Mem.begin h
  refine Gives.enter (n := 11) Tryd.func104 rfl Tryd.ntmps104 rfl (env := [(0, .pointer (some ⟨g, 0, none⟩)), (1, .agg (intV a).toArray)]) rfl ?_
  refine WC.seq ?_
  refine WC.region ?_
  refine WL.ac rfl rfl rfl (Ac.box M0 rfl rfl) ?_; rintro v1 w1 ⟨g1, rfl, hg1, K1, M1⟩
  refine WL.ex rfl rfl rfl (Ex.asg rfl) ?_
  refine WL.nil ?_
  refine WX.next (?_)
  refine WC.seq ?_
  refine WC.region ?_
  refine WL.ex rfl rfl rfl (Ex.loadA ty48 rfl (l := intV a) (by simpa using ha.1) (M1.rdw (i := 0) rfl)) ?_
  refine WL.ac rfl rfl rfl (Ac.call rfl Tryd.func118 nm118 rfl (hBytes_ok w1 a ha)) ?_; rintro v4 w4 ⟨rfl, K4⟩
  have M4 := M1.step K4
  refine WL.ac rfl rfl rfl (Ac.alloc M4 (l := bytesV (List.replicate 32 0)) (by kernel_rfl)) ?_; rintro v5 w5 ⟨gb, rfl, hg5, K5, M5⟩
  refine WL.ac0 rfl rfl (Ac.stA M5 ty30 rfl rfl (vs := bytesV (intB a)) rfl (by simp) (bytesV_one _) (i := 0) rfl (by simp)) ?_; rintro v6 w6 ⟨K6, M6⟩
  try dsimp only [List.set] at M6
  rw [splice_all _ _ (by simp)] at M6
  refine WL.nil ?_
  refine WX.next (?_)
  refine WC.seq ?_
  refine WC.region ?_
  refine WL.ex rfl rfl rfl (Ex.mv rfl) ?_
  refine WL.ex rfl rfl rfl (Ex.slA Tryd.underlying30 sz5 rfl) ?_
  refine WL.ac rfl rfl rfl (Ac.call rfl Tryd.func116 nm116 rfl (wRaw_ok w6 g v l _ 32 (intB a) (M6.get (i := 2) rfl) (M6.rdw (i := 0) rfl) hb (by simp))) ?_; rintro v9 w9 ⟨rfl, v1, T9⟩
  have M9 := M6.turned (i := 2) rfl T9
  refine WL.ex rfl rfl rfl (Ex.asg rfl) ?_
  refine WL.nil ?_
  refine WX.next (?_)
  refine WC.ret ?_
  refine WX.ret1 rfl rfl ?_
  exact ⟨rfl, v1, (Mem.sub M9 (.cons _ (.cons _ (.refl _)))).toTurn⟩

end Go.Proofs.YtchmjpdkonfifaaDoor
