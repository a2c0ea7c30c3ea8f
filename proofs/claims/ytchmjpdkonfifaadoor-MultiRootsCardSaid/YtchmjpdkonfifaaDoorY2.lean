/- Walks, written by gen.py off the translation's own print: each says what the Go function comes to. -/
import Derived.Test.YtchmjpdkonfifaaDoorY1
import Derived.Test.YtchmjpdkonfifaaDoorTree
import Derived.Test.YtchmjpdkonfifaaDoorAl
set_option linter.unusedVariables false
set_option linter.unusedSimpArgs false
namespace Go.Proofs.YtchmjpdkonfifaaDoor
open Go.Sx Go.RowKit
attribute [local irreducible] Ac Ex WL WC WX WP Gives sha

/-- A writer at block g: the value in its field, the bytes that it has. -/
abbrev wrR (g : Nat) (v : Value) (l : List UInt8) : Res := box1 g (fun v => [v]) 142 v 5 1 l.length (bytesV l)

/- (*sponsion/pack.Writer).num -/
theorem wnum_ok (w : World) (g : Nat) (v : Value) (l : List UInt8) (x : Nat) (size : Nat) (h : (wrR g v l).sat w) (hs : size ≤ 8) (hx : x < 18446744073709551616) (hb : l.length ≤ 35184372088832) :
    Gives Tryd.prog 117 #[.pointer (some ⟨g, 0, none⟩), .int .u64 (x : Int), .int .i64 (size : Int)] w fun u w' => u = .pointer (some ⟨g, 0, none⟩) ∧ ∃ v', Turn w w' (wrR g v l) (wrR g v' (l ++ be size x)) := by
  have M0 := (Mem.begin h).open1
  refine Gives.enter (n := 29) Tryd.func117 rfl Tryd.ntmps117 rfl (env := [(0, .pointer (some ⟨g, 0, none⟩)), (1, .int .u64 (x : Int)), (2, .int .i64 (size : Int))]) rfl ?_
  refine qD ?_
  refine qB ?_
  refine qE ?_
  refine WC.seq ?_
  refine qD ?_
  refine qA ?_
  refine WL.ex rfl rfl rfl (Ex.sub rfl rfl (i64w _ (by omega) (by omega))) ?_
  refine qB ?_
  refine qE ?_
  refine WC.block ?_
  refine WC.loop (σ := Nat) (fun s => [(0, .pointer (some ⟨g, 0, none⟩)), (1, .int .u64 (x : Int)), (7, .int .i64 ((s : Int) - 1))]) (fun s wr => ∃ v1 l1, s ≤ size ∧ l1 ++ be s x = l ++ be size x ∧ Mem w wr (· ∈ (wrR g v l).fp) [blk g [v1] 142, row v1 5 1 l1.length (bytesV l1)]) (fun s => s) (size) ?_ (.cons rfl (.cons rfl (.cons rfl (.nil)))) ?_
  · exact ⟨v, l, Nat.le_refl _, rfl, M0⟩
  rintro s w5 ⟨v1, l1, hs1, hl1, M5⟩
  refine WC.seq ?_
  refine qD ?_
  refine qA ?_
  refine WL.ex rfl rfl rfl (Ex.geq rfl rfl) ?_
  refine qE ?_
  refine WC.cond_dec rfl (fun hc11 => ?_) (fun hc11 => ?_)
  · obtain ⟨j, rfl⟩ : ∃ j, s = j + 1 := ⟨s - 1, by omega⟩
    have hlen : l1.length + (j + 1) = l.length + size := by have := congrArg List.length hl1; simpa using this
    refine WC.sub (env' := [(0, .pointer (some ⟨g, 0, none⟩)), (1, .int .u64 (x : Int)), (7, .int .i64 (j : Int))]) (.cons rfl (.cons rfl (.cons (congrArg some (congrArg (Value.int .i64) (by omega))) .nil))) ?_
    refine WC.skip ?_
    refine WX.next ?_
    refine WC.seq ?_
    refine WC.block ?_
    refine WC.draw (Keep nof w5.drew) [11, 14] (.one 0 0 (.one 1 0 (.one 2 0 (.one 3 0 (.one 5 0 (.one 6 0 (.one 7 0 (.one 8 0 (.one 9 0 (.one 4 1 (.one 10 2 (.one 11 2 (.one 12 0 (.one 13 0 (.one 14 2 .nil))))))))))))))) mixed (by kernel_rfl) (by kernel_rfl) (by kernel_rfl) (HQ.block (HQ.then_ (HQ.then_ (HQ.block (HQ.then_ HQ.body))))) ?_
    obtain ⟨w8, hw8⟩ : ∃ v, v = w5.drew := ⟨_, rfl⟩
    have D8 : Keep nof w5 w8 := by rw [hw8]; exact Keep.drew _ _
    have M8 := M5.step D8
    rw [← hw8]; clear hw8
    refine qC ?_
    refine qC ?_
    refine WP.p rfl rfl rfl rfl (fun _ => Ex.nilc rfl) ?_
    refine WP.p rfl rfl rfl rfl (fun _ => Ex.fa fl142_0 rfl) ?_
    refine qC ?_
    refine qC ?_
    refine WP.p rfl rfl rfl rfl (fun _ => Ex.mul rfl rfl (i64w _ (by omega) (by omega))) ?_
    refine WP.p rfl rfl rfl rfl (fun _ => Ex.shr rfl rfl (m := 8 * j) (by omega) (shrN _ _ _ (by simp [IntKind.bits]; omega))) ?_
    refine WP.p rfl rfl rfl rfl (fun _ => Ex.cvI Tryd.underlying23 Tryd.underlying5 rfl (u8b _)) ?_
    refine WP.q (Keep.refl _ _) rfl rfl rfl rfl (fun w' hS => Ex.load ty112 rfl (hS.cell (M8.cell (i := 0) rfl rfl) (fun f => f))) ?_
    refine WP.as rfl rfl rfl rfl (Ac.bs M8 (parts := [(0, .tmp 23)]) rfl rfl (LitS.one el112 rfl)) ?_; rintro v19 w19 ⟨g19, rfl, hg19, K19, M19⟩
    refine ⟨Keep nof w19, fun u h => K19.trans h, Keep.refl _ _, ?_⟩
    refine WP.a rfl rfl rfl rfl (Ac.app M19 el112 rfl rfl (i := 2) rfl rfl (M19.rdw (i := 0) rfl) (by simp [Value.oneCell']) (by simp; omega) (by simp [maxLen]; omega)) ?_; rintro v20 w20 ⟨K20, M20⟩; refine .inl ⟨rfl, Keep nof w20, ?_⟩
    try dsimp only [List.set] at M20
    rw [bytesV_snoc, len_snoc l1 (UInt8.ofNat (x / 2 ^ (8 * j)))] at M20
    obtain ⟨A20, c20, rfl⟩ := own_slice (M20.get (i := 2) rfl)
    refine WP.p rfl rfl rfl rfl (fun _ => Ex.nilc rfl) ?_
    refine WP.p rfl rfl rfl rfl (fun _ => Ex.fa fl142_0 rfl) ?_
    refine WP.a0 rfl rfl rfl (Ac.st M20 ty112 rfl rfl rfl (i := 1) rfl (by simp)) ?_; rintro v23 w23 ⟨K23, M23⟩; refine .inl ⟨rfl, Keep nof w23, ?_⟩
    try dsimp only [List.set] at M23
    refine WP.nil ?_
    refine WX.normal_block (WX.next (?_))
    refine WC.region ?_
    refine qA ?_
    refine WL.ex rfl rfl rfl (Ex.sub rfl rfl (i64w _ (by omega) (by omega))) ?_
    refine qB ?_
    refine WL.nil ?_
    refine WX.again (j) ?_ ?_ (.cons rfl (.cons rfl (.cons rfl (.nil))))
    · (try dsimp only); omega
    · exact ⟨_, _, by omega, by rw [← hl1]; simp [be], M23.drop1⟩
  · obtain rfl : s = 0 := by omega
    refine WC.exit ?_
    refine WX.exit_then (WX.exit_then (WX.exit_block (WX.next (?_))))
    refine qD ?_
    refine qA ?_
    refine qB ?_
    refine qE ?_
    refine WC.ret ?_
    refine WX.ret1 rfl rfl ?_
    obtain rfl : l1 = l ++ be size x := by simpa [be] using hl1
    exact ⟨rfl, v1, (M5.close1 (fun v => [v])).toTurn⟩

/- (*sponsion/pack.Writer).U8 -/
theorem wU8_ok (w : World) (g : Nat) (v : Value) (l : List UInt8) (x : Nat) (h : (wrR g v l).sat w) (hx : x < 256) (hb : l.length ≤ 35184372088832) :
    Gives Tryd.prog 103 #[.pointer (some ⟨g, 0, none⟩), .int .u8 (x : Int)] w fun u w' => u = .pointer (some ⟨g, 0, none⟩) ∧ ∃ v', Turn w w' (wrR g v l) (wrR g v' (l ++ be 1 x)) := by
  have M0 := Mem.begin h
  refine Gives.enter (n := 9) Tryd.func103 rfl Tryd.ntmps103 rfl (env := [(0, .pointer (some ⟨g, 0, none⟩)), (1, .int .u8 (x : Int))]) rfl ?_
  refine qD ?_
  refine qB ?_
  refine qE ?_
  refine qD ?_
  refine qA ?_
  refine qA ?_
  refine WL.ex rfl rfl rfl (Ex.cvI Tryd.underlying5 Tryd.underlying23 rfl (by first | exact u64w_lt _ (by omega) | exact u64w _)) ?_
  refine WL.ac rfl rfl rfl (Ac.call rfl Tryd.func117 nm117 rfl (wnum_ok w g v l x 1 (M0.get (i := 0) rfl) (by omega) (by omega) hb)) ?_; rintro v5 w5 ⟨rfl, v', T5⟩
  have M5 := M0.turned (i := 0) rfl T5
  refine qB ?_
  refine qE ?_
  refine WC.ret ?_
  refine WX.ret1 rfl rfl ?_
  exact ⟨rfl, v', T5⟩

/- (*sponsion/pack.Writer).U32 -/
theorem wU32_ok (w : World) (g : Nat) (v : Value) (l : List UInt8) (x : Nat) (h : (wrR g v l).sat w) (hx : x < 4294967296) (hb : l.length ≤ 35184372088832) :
    Gives Tryd.prog 102 #[.pointer (some ⟨g, 0, none⟩), .int .u32 (x : Int)] w fun u w' => u = .pointer (some ⟨g, 0, none⟩) ∧ ∃ v', Turn w w' (wrR g v l) (wrR g v' (l ++ be 4 x)) := by
  have M0 := Mem.begin h
  refine Gives.enter (n := 9) Tryd.func102 rfl Tryd.ntmps102 rfl (env := [(0, .pointer (some ⟨g, 0, none⟩)), (1, .int .u32 (x : Int))]) rfl ?_
  refine qD ?_
  refine qB ?_
  refine qE ?_
  refine qD ?_
  refine qA ?_
  refine qA ?_
  refine WL.ex rfl rfl rfl (Ex.cvI Tryd.underlying46 Tryd.underlying23 rfl (by first | exact u64w_lt _ (by omega) | exact u64w _)) ?_
  refine WL.ac rfl rfl rfl (Ac.call rfl Tryd.func117 nm117 rfl (wnum_ok w g v l x 4 (M0.get (i := 0) rfl) (by omega) (by omega) hb)) ?_; rintro v5 w5 ⟨rfl, v', T5⟩
  have M5 := M0.turned (i := 0) rfl T5
  refine qB ?_
  refine qE ?_
  refine WC.ret ?_
  refine WX.ret1 rfl rfl ?_
  exact ⟨rfl, v', T5⟩

/- (*sponsion/pack.Writer).Raw -/
theorem wRaw_ok (w : World) (g : Nat) (v : Value) (l : List UInt8) (A : Option Addr) (c : Nat) (m : List UInt8) (h : (wrR g v l).sat w) (hr : Rd w A (bytesV m)) (hb : l.length ≤ 35184372088832) (hm : m.length ≤ 35184372088832) :
    Gives Tryd.prog 116 #[.pointer (some ⟨g, 0, none⟩), .slice A m.length c] w fun u w' => u = .pointer (some ⟨g, 0, none⟩) ∧ ∃ v', Turn w w' (wrR g v l) (wrR g v' (l ++ m)) := by
  have M0 := (Mem.begin h).open1
  refine Gives.enter (n := 15) Tryd.func116 rfl Tryd.ntmps116 rfl (env := [(0, .pointer (some ⟨g, 0, none⟩)), (1, .slice A m.length c)]) rfl ?_
  refine qD ?_
  refine qB ?_
  refine qE ?_
  refine qD ?_
  refine qA ?_
  refine qA ?_
  refine WL.ex rfl rfl rfl (Ex.nilc rfl) ?_
  refine WL.ex rfl rfl rfl (Ex.fa fl142_0 rfl) ?_
  refine WL.ex rfl rfl rfl (Ex.load ty112 rfl (M0.cell (i := 0) rfl rfl)) ?_
  refine qA ?_
  refine WL.ac rfl rfl rfl (Ac.app M0 el112 rfl rfl (i := 1) rfl (by simp) hr (bytesV_one _) (by omega) (by simp [maxLen]; omega)) ?_; rintro v8 w8 ⟨K8, M8⟩
  try dsimp only [List.set] at M8
  rw [← bytesV_append, len_app l m] at M8
  obtain ⟨A8, c8, rfl⟩ := own_slice (M8.get (i := 1) rfl)
  refine WL.ex rfl rfl rfl (Ex.nilc rfl) ?_
  refine WL.ex rfl rfl rfl (Ex.fa fl142_0 rfl) ?_
  refine WL.ac0 rfl rfl (Ac.st M8 ty112 rfl rfl rfl (i := 0) rfl (by simp)) ?_; rintro v11 w11 ⟨K11, M11⟩
  try dsimp only [List.set] at M11
  refine qE ?_
  refine qD ?_
  refine qA ?_
  refine qB ?_
  refine qE ?_
  refine WC.ret ?_
  refine WX.ret1 rfl rfl ?_
  exact ⟨rfl, _, (M11.close1 (fun v => [v])).toTurn⟩

/- (*sponsion/pack.Writer).Bytes -/
theorem wBytes_ok (w : World) (g : Nat) (v : Value) (l : List UInt8) (h : (wrR g v l).sat w) (hb : l.length ≤ 35184372088832) :
    Gives Tryd.prog 87 #[.pointer (some ⟨g, 0, none⟩)] w fun u w' => New w w' (row u 5 1 l.length (bytesV l)) := by
  obtain ⟨A, c, rfl⟩ := own_slice h.2.1
  have M0 := (Mem.begin h).open1
  refine Gives.enter (n := 8) Tryd.func87 rfl Tryd.ntmps87 rfl (env := [(0, .pointer (some ⟨g, 0, none⟩))]) rfl ?_
  refine qD ?_
  refine qB ?_
  refine qE ?_
  refine qD ?_
  refine qA ?_
  refine WL.ex rfl rfl rfl (Ex.nilc rfl) ?_
  refine WL.ex rfl rfl rfl (Ex.fa fl142_0 rfl) ?_
  refine WL.ex rfl rfl rfl (Ex.load ty112 rfl (M0.cell (i := 0) rfl rfl)) ?_
  refine WL.ac rfl rfl rfl (Ac.call rfl Tryd.func105 nm105 rfl (clone_ok w A c l (M0.rdr (i := 1) rfl) (by omega))) ?_; rintro v6 w6 N6
  have M6 := M0.new N6
  refine qB ?_
  refine qE ?_
  refine WC.ret ?_
  refine WX.ret1 rfl rfl ?_
  exact N6

/- sponsion/domain.Text -/
theorem text_ok (w : World) (tag : Nat) (A : Option Addr) (c : Nat) (ps : List SV) (ht : tag < 256) (hr : RdP w A ps) (hp : ∀ p ∈ ps, p.l.length < 4294967296) (hb : (txt tag (ps.map (·.l))).length ≤ 35184372088832) :
    Gives Tryd.prog 101 #[.int .u8 (tag : Int), .slice A ps.length c] w fun u w1 => New w w1 (row u 5 1 (txt tag (ps.map (·.l))).length (bytesV (txt tag (ps.map (·.l))))) := by
  have hlen : ps.length ≤ 35184372088832 := by
    rw [txt_length] at hb
    have h4 : ∀ l : List SV, 4 * l.length ≤ ((l.map (·.l)).map fun p => p.length + 4).sum := by
      intro l
      induction l with
      | nil => simp
      | cons a r ih => simp only [List.map_cons, List.sum_cons, List.length_cons]; omega
    have := h4 ps
    omega
  have M0 := (Mem.start w nof).free (r := row (.slice none 0 0) 5 1 ([] : List UInt8).length (bytesV [])) (row_nil _ _ _) rfl
  refine Gives.enter (n := 28) Tryd.func101 rfl Tryd.ntmps101 rfl (env := [(0, .int .u8 (tag : Int)), (1, .slice A ps.length c)]) rfl ?_
  refine qD ?_
  refine qB ?_
  refine qE ?_
  refine qD ?_
  refine WL.ex rfl rfl rfl (Ex.bld bd142 (parts := []) rfl rfl rfl rfl) ?_
  refine WL.ac rfl rfl rfl (Ac.box M0 rfl rfl) ?_; rintro v3 w3 ⟨g, rfl, hg3, K3, M3⟩
  have M3 := M3.close1 (fun v => [v])
  refine qA ?_
  refine WL.ac rfl rfl rfl (Ac.call rfl Tryd.func103 nm103 rfl (wU8_ok w3 g _ [] tag (M3.get (i := 0) rfl) ht (by simp))) ?_; rintro v5 w5 ⟨rfl, v1, T5⟩
  have M5 := M3.turned (i := 0) rfl T5
  try dsimp only [List.set] at M5
  refine qB ?_
  refine qE ?_
  refine WC.seq ?_
  refine qD ?_
  refine qA ?_
  refine WL.ex rfl rfl rfl (Ex.len Tryd.underlying153 rfl) ?_
  refine qA ?_
  refine qE ?_
  refine WC.block ?_
  refine WC.loop (σ := Nat) (fun i => [(5, .pointer (some ⟨g, 0, none⟩)), (12, .slice A ps.length c), (13, .int .i64 (ps.length : Int)), (14, .int .i64 (i : Int))]) (fun i wr => i ≤ ps.length ∧ ∃ v, Mem w wr nof [wrR g v (txt tag ((ps.map (·.l)).take i))]) (fun i => ps.length - i) (0) ?_ (.cons rfl (.cons rfl (.cons rfl (.cons rfl (.nil))))) ?_
  · exact ⟨by omega, v1, M5⟩
  rintro i w10 ⟨hi, v, M10⟩
  refine qD ?_
  refine WL.ex rfl rfl rfl (Ex.lss rfl rfl) ?_
  refine qE ?_
  refine WC.seq ?_
  refine WC.cond_dec rfl (fun hc15 => ?_) (fun hc15 => ?_)
  · obtain ⟨p, hpi⟩ : ∃ p, ps[i]? = some p := ⟨_, List.getElem?_eq_getElem (by omega)⟩
    have hpm : p ∈ ps := List.mem_of_getElem? hpi
    have hp4 := hp p hpm
    have hacc := txt_take_le tag (ps.map (·.l)) i
    have hacc1 := txt_take_le tag (ps.map (·.l)) (i + 1)
    have hsn : (ps.map (·.l)).take (i + 1) = (ps.map (·.l)).take i ++ [p.l] := take_snoc (by simp [hpi])
    rw [hsn, txt_snoc] at hacc1
    simp only [List.length_append, be_length] at hacc1
    obtain ⟨b, o, hA, _⟩ := hr.1.plain (by simp; omega)
    subst hA
    refine WC.skip ?_
    refine WX.next ?_
    refine WC.seq ?_
    refine WC.block ?_
    refine qD ?_
    refine WL.ex rfl rfl rfl (Ex.ia Tryd.underlying153 sz112 rfl rfl ⟨by omega, by omega⟩) ?_
    refine WL.ex rfl rfl rfl (Ex.load ty112 rfl (Rd.at1 (u := svV p) (hr.keep M10.keep).1 (j := (i : Int).toNat * 1) (by simp [hpi]))) ?_
    refine qB ?_
    refine qE ?_
    refine WC.region ?_
    refine qA ?_
    refine qA ?_
    refine WL.ex rfl rfl rfl (Ex.len Tryd.underlying112 rfl) ?_
    refine WL.ex rfl rfl rfl (Ex.cvI Tryd.underlying3 Tryd.underlying46 rfl (by first | exact u32w_lt _ (by omega) | exact u32w _)) ?_
    refine WL.ac rfl rfl rfl (Ac.call rfl Tryd.func102 nm102 rfl (wU32_ok w10 g v _ p.l.length (M10.get (i := 0) rfl) hp4 (by omega))) ?_; rintro v19 w19 ⟨rfl, v2, T19⟩
    have M19 := M10.turned (i := 0) rfl T19
    try dsimp only [List.set] at M19
    refine qA ?_
    refine WL.ac rfl rfl rfl (Ac.call rfl Tryd.func116 nm116 rfl (wRaw_ok w19 g v2 _ p.A p.c p.l (M19.get (i := 0) rfl) ((hr.keep M19.keep).2 p hpm) (by simp only [List.length_append, be_length]; omega) (by omega))) ?_; rintro v21 w21 ⟨rfl, v3, T21⟩
    have M21 := M19.turned (i := 0) rfl T21
    try dsimp only [List.set] at M21
    rw [← txt_snoc, ← hsn] at M21
    refine WL.nil ?_
    refine WX.normal_block (WX.next (?_))
    refine WC.region ?_
    refine WL.ex rfl rfl rfl (Ex.add rfl rfl (i64w _ (by omega) (by omega))) ?_
    refine qA ?_
    refine WL.nil ?_
    refine WX.again (i + 1) ?_ ?_ (.cons rfl (.cons rfl (.cons rfl (.cons rfl (.nil)))))
    · (try dsimp only); omega
    · exact ⟨by omega, v3, M21⟩
  · obtain rfl : i = ps.length := by omega
    refine WC.exit ?_
    refine WX.exit_then (WX.exit_then (WX.exit_block (WX.next (?_))))
    refine qD ?_
    refine qA ?_
    refine WL.ac rfl rfl rfl (Ac.call rfl Tryd.func87 nm87 rfl (wBytes_ok w10 g v _ (M10.get (i := 0) rfl) (by rw [List.take_of_length_le (by simp)]; exact hb))) ?_; rintro v25 w25 N25
    have M25 := M10.new N25
    rw [List.take_of_length_le (by simp)] at M25
    refine qB ?_
    refine qE ?_
    refine WC.ret ?_
    refine WX.ret1 rfl rfl ?_
    exact M25.toNew

/-- The sums of the document. -/
def dOf (tag : Nat) (ps : List (List UInt8)) : List UInt8 := sha (txt tag ps)
def dLeaf (b : List UInt8) : List UInt8 := dOf 0 [b]
def dNode (l r : List UInt8) : List UInt8 := dOf 1 [l, r]
def emptyH : Nat → List UInt8
  | 0 => dOf 2 []
  | n + 1 => dNode (emptyH n) (emptyH n)
theorem dOf_len (tag : Nat) (ps : List (List UInt8)) : H32 (dOf tag ps) := sha_length _
theorem dNode_len (l r : List UInt8) : H32 (dNode l r) := sha_length _
theorem dLeaf_len (b : List UInt8) : H32 (dLeaf b) := sha_length _
theorem emptyH_len : ∀ n, H32 (emptyH n)
  | 0 => sha_length _
  | _ + 1 => sha_length _
def lvl (z : Int) : Nat := (max 0 (min z 32)).toNat
theorem lvl_le (z : Int) : lvl z ≤ 32 := by unfold lvl; omega
theorem txt_1 (tag : Nat) (b : List UInt8) : (txt tag [b]).length = 5 + b.length := by rw [txt_length]; simp; omega
theorem txt_2 (tag : Nat) (b c : List UInt8) : (txt tag [b, c]).length = 9 + b.length + c.length := by rw [txt_length]; simp; omega
theorem RdP.nil (w : World) (A : Option Addr) : RdP w A [] := ⟨Rd.nil _ _, fun p hp => by cases hp⟩
theorem str_one (l : List UInt8) : (str l).oneCell' = true := rfl

/- sponsion/huge.Bytes -/
theorem hBytes_ok (w : World) (a : List Nat) (ha : Int4 a) :
    Gives Tryd.prog 118 #[.agg (intV a).toArray] w fun u w1 => u = .agg (bytesV (intB a)).toArray ∧ Keep nof w w1 := by
  have M0 := Mem.start w nof
  obtain ⟨hl4, hb4⟩ := ha
  refine Gives.enter (n := 24) Tryd.func118 rfl Tryd.ntmps118 rfl (env := [(0, .agg (intV a).toArray)]) rfl ?_
  refine qD ?_
  refine WL.ac rfl rfl rfl (Ac.box M0 rfl rfl) ?_; rintro v1 w1 ⟨g1, rfl, hg1, K1, M1⟩
  refine WL.ac rfl rfl rfl (Ac.alloc M1 (l := bytesV (List.replicate 32 0)) (by kernel_rfl)) ?_; rintro v2 w2 ⟨g2, rfl, hg2, K2, M2⟩
  refine qE ?_
  refine qD ?_
  refine WL.ac rfl rfl rfl (Ac.alloc M2 (l := bytesV (List.replicate 32 0)) (by kernel_rfl)) ?_; rintro v3 w3 ⟨g3, rfl, hg3, K3, M3⟩
  refine qE ?_
  refine WC.seq ?_
  refine qD ?_
  refine qA ?_
  refine qE ?_
  refine WC.block ?_
  refine WC.loop (σ := Nat) (fun i => [(1, .pointer (some ⟨g1, 0, none⟩)), (2, .pointer (some ⟨g2, 0, none⟩)), (3, .pointer (some ⟨g3, 0, none⟩)), (6, .int .i64 (i : Int))]) (fun i wr => i ≤ 32 ∧ Mem w wr nof [blk g3 (bytesV (fillTo 32 i (fun i => UInt8.ofNat (a.getD ((31 - i) / 8) 0 / 2 ^ (8 * ((31 - i) % 8)))) 0)) 30, blk g2 (bytesV (List.replicate 32 0)) 30, blk g1 (intV a) 48]) (fun i => 32 - i) (0) ?_ (.cons rfl (.cons rfl (.cons rfl (.cons rfl (.nil))))) ?_
  · exact ⟨by omega, by rw [fillTo_zero]; exact M3⟩
  rintro i w5 ⟨hi, M5⟩
  refine qD ?_
  refine WL.ex rfl rfl rfl (Ex.lss rfl rfl) ?_
  refine qE ?_
  refine WC.seq ?_
  refine WC.cond_dec rfl (fun hc7 => ?_) (fun hc7 => ?_)
  · skip
    refine WC.skip ?_
    refine WX.next ?_
    refine WC.seq ?_
    refine WC.block ?_
    refine qD ?_
    refine qA ?_
    refine qB ?_
    refine qE ?_
    refine qD ?_
    refine qA ?_
    refine WL.ex rfl rfl rfl (Ex.sub rfl rfl (c := ((31 - i : Nat) : Int)) (by rw [i64w _ (by omega) (by omega)]; omega)) ?_
    refine qB ?_
    refine qE ?_
    refine WC.region ?_
    refine qA ?_
    refine qA ?_
    refine WL.ex rfl rfl rfl (Ex.quo rfl rfl (by decide) (c := (((31 - i) / 8 : Nat) : Int)) (by rw [IntWalk.i64_quo _ _ (by omega)]; omega)) ?_
    refine WL.ex rfl rfl rfl (Ex.iaA Tryd.underlying48 sz23 rfl rfl ⟨by omega, by omega⟩) ?_
    refine WL.ex rfl rfl rfl (Ex.load ty23 rfl (M5.cell (i := 2) (v := .int .u64 ((a.getD ((31 - i) / 8) 0 : Nat) : Int)) rfl (by simp only [Int.toNat_natCast, Nat.mul_one, Nat.zero_add]; exact intV_get (by omega)))) ?_
    refine qA ?_
    refine WL.ex rfl rfl rfl (Ex.rem rfl rfl (by decide) (c := (((31 - i) % 8 : Nat) : Int)) (by rw [Int.tmod_eq_emod_of_nonneg (by omega)]; omega)) ?_
    refine WL.ex rfl rfl rfl (Ex.mul rfl rfl (c := ((8 * ((31 - i) % 8) : Nat) : Int)) (by rw [i64w _ (by omega) (by omega)]; omega)) ?_
    refine WL.ex rfl rfl rfl (Ex.shr rfl rfl (m := 8 * ((31 - i) % 8)) rfl (shrN _ _ _ (by simp [IntKind.bits]; omega))) ?_
    refine WL.ex rfl rfl rfl (Ex.cvI Tryd.underlying23 Tryd.underlying5 rfl (u8b _)) ?_
    refine WL.ex rfl rfl rfl (Ex.iaA Tryd.underlying30 sz5 rfl rfl ⟨by omega, by omega⟩) ?_
    refine WL.ac0 rfl rfl (Ac.st M5 ty5 rfl rfl rfl (i := 0) rfl (by simp; omega)) ?_; rintro v23 w23 ⟨K23, M23⟩
    try dsimp only [List.set] at M23
    simp only [Int.toNat_natCast, Nat.mul_one, Nat.zero_add] at M23
    rw [bytesV_set, fillTo_set 32 i (fun i => UInt8.ofNat (a.getD ((31 - i) / 8) 0 / 2 ^ (8 * ((31 - i) % 8))))] at M23
    refine WL.nil ?_
    refine WX.normal_block (WX.next (?_))
    refine WC.region ?_
    refine WL.ex rfl rfl rfl (Ex.add rfl rfl (i64w _ (by omega) (by omega))) ?_
    refine qA ?_
    refine WL.nil ?_
    refine WX.again (i + 1) ?_ ?_ (.cons rfl (.cons rfl (.cons rfl (.cons rfl (.nil)))))
    · (try dsimp only); omega
    · exact ⟨by omega, M23⟩
  · obtain rfl : i = 32 := by omega
    rw [fillTo_full 32 32 (Nat.le_refl _)] at M5
    refine WC.exit ?_
    refine WX.exit_then (WX.exit_then (WX.exit_block (WX.next (?_))))
    refine qD ?_
    refine WL.ex rfl rfl rfl (Ex.loadA ty30 rfl (l := bytesV (intB a)) (by simp) (M5.rdw (i := 0) rfl)) ?_
    refine WL.ac0 rfl rfl (Ac.stA M5 ty30 rfl rfl (vs := bytesV (intB a)) rfl (by simp) (bytesV_one _) (i := 1) rfl (by simp)) ?_; rintro v27 w27 ⟨K27, M27⟩
    try dsimp only [List.set] at M27
    rw [splice_all _ _ (by simp)] at M27
    refine qE ?_
    refine WC.ret ?_
    refine WX.retc rfl rfl (run_loadVarA ty30 (l := bytesV (intB a)) (by simp) (M27.rdw (i := 1) rfl)) ?_
    exact ⟨rfl, M27.keep⟩

/- (*sponsion/pack.Writer).Int -/
theorem wInt_ok (w : World) (g : Nat) (v : Value) (l : List UInt8) (a : List Nat) (h : (wrR g v l).sat w) (ha : Int4 a) (hb : l.length ≤ 35184372088832) :
    Gives Tryd.prog 104 #[.pointer (some ⟨g, 0, none⟩), .agg (intV a).toArray] w fun u w1 => u = .pointer (some ⟨g, 0, none⟩) ∧ ∃ v1, Turn w w1 (wrR g v l) (wrR g v1 (l ++ intB a)) := by
  have M0 := Mem.begin h
  refine Gives.enter (n := 11) Tryd.func104 rfl Tryd.ntmps104 rfl (env := [(0, .pointer (some ⟨g, 0, none⟩)), (1, .agg (intV a).toArray)]) rfl ?_
  refine qD ?_
  refine WL.ac rfl rfl rfl (Ac.box M0 rfl rfl) ?_; rintro v1 w1 ⟨g1, rfl, hg1, K1, M1⟩
  refine qB ?_
  refine qE ?_
  refine qD ?_
  refine WL.ex rfl rfl rfl (Ex.loadA ty48 rfl (l := intV a) (by simpa using ha.1) (M1.rdw (i := 0) rfl)) ?_
  refine WL.ac rfl rfl rfl (Ac.call rfl Tryd.func118 nm118 rfl (hBytes_ok w1 a ha)) ?_; rintro v4 w4 ⟨rfl, K4⟩
  have M4 := M1.step K4
  refine WL.ac rfl rfl rfl (Ac.alloc M4 (l := bytesV (List.replicate 32 0)) (by kernel_rfl)) ?_; rintro v5 w5 ⟨gb, rfl, hg5, K5, M5⟩
  refine WL.ac0 rfl rfl (Ac.stA M5 ty30 rfl rfl (vs := bytesV (intB a)) rfl (by simp) (bytesV_one _) (i := 0) rfl (by simp)) ?_; rintro v6 w6 ⟨K6, M6⟩
  try dsimp only [List.set] at M6
  rw [splice_all _ _ (by simp)] at M6
  refine qE ?_
  refine qD ?_
  refine qA ?_
  refine WL.ex rfl rfl rfl (Ex.slA Tryd.underlying30 sz5 rfl) ?_
  refine WL.ac rfl rfl rfl (Ac.call rfl Tryd.func116 nm116 rfl (wRaw_ok w6 g v l _ 32 (intB a) (M6.get (i := 2) rfl) (M6.rdw (i := 0) rfl) hb (by simp))) ?_; rintro v9 w9 ⟨rfl, v1, T9⟩
  have M9 := M6.turned (i := 2) rfl T9
  refine qB ?_
  refine qE ?_
  refine WC.ret ?_
  refine WX.ret1 rfl rfl ?_
  exact ⟨rfl, v1, (Mem.sub M9 (.cons _ (.cons _ (.refl _)))).toTurn⟩

end Go.Proofs.YtchmjpdkonfifaaDoor

set_option linter.unusedVariables false
set_option linter.unusedSimpArgs false
namespace Go.Proofs.YtchmjpdkonfifaaDoor
open Go.Sx Go.RowKit
attribute [local irreducible] Ac Ex WL WC WX WP Gives sha

/- sponsion/domain.Of -/
theorem domOf_ok (w : World) (tag : Nat) (A : Option Addr) (c : Nat) (ps : List SV) (ht : tag < 256) (hr : RdP w A ps) (hT : Tabs w) (hp : ∀ p ∈ ps, p.l.length < 4294967296) (hb : (txt tag (ps.map (·.l))).length ≤ 1000000000000) :
    Gives Tryd.prog 85 #[.int .u8 (tag : Int), .slice A ps.length c] w fun u w1 => u = .agg (bytesV (dOf tag (ps.map (·.l)))).toArray ∧ Keep nof w w1 := by
  have M0 := Mem.start w nof
  have hs32 := dOf_len tag (ps.map (·.l))
  refine Gives.enter (n := 10) Tryd.func85 rfl Tryd.ntmps85 rfl (env := [(0, .int .u8 (tag : Int)), (1, .slice A ps.length c)]) rfl ?_
  refine qD ?_
  refine WL.ac rfl rfl rfl (Ac.alloc M0 (l := bytesV (List.replicate 32 0)) (by kernel_rfl)) ?_; rintro v1 w1 ⟨g1, rfl, hg1, K1, M1⟩
  refine qE ?_
  refine qD ?_
  refine qA ?_
  refine qA ?_
  refine WL.ac rfl rfl rfl (Ac.call rfl Tryd.func101 nm101 rfl (text_ok w1 tag A c ps ht (hr.keep M1.keep) hp (by omega))) ?_; rintro v4 w4 N4
  have M4 := M1.new N4
  obtain ⟨A2, c2, rfl⟩ := own_slice (M4.get (i := 0) rfl)
  obtain ⟨X, hX⟩ : ∃ X, X = txt tag (ps.map (·.l)) := ⟨_, rfl⟩
  have hd : sha X = dOf tag (ps.map (·.l)) := by rw [hX]; rfl
  rw [← hX] at M4 hb ⊢
  refine WL.ac rfl rfl rfl (Ac.bs M4 (parts := [(0, .tmp 7)]) (l := [svV ⟨A2, c2, X⟩]) rfl rfl (LitS.one el153 rfl)) ?_; rintro v5 w5 ⟨g2, rfl, hg5, K5, M5⟩
  refine WL.ac rfl rfl rfl (Ac.call rfl Tryd.func100 nm100 rfl (dsum_ok w5 _ 1 [⟨A2, c2, X⟩] (RdP.one (M5.get (i := 0) rfl) (M5.rdr (i := 1) rfl)) (hT.keep M5.keep) (by rw [flatP_one]; omega) (by simp))) ?_; rintro v6 w6 ⟨rfl, K6⟩
  rw [flatP_one, hd]
  have M6 := M5.step K6
  refine WL.ac0 rfl rfl (Ac.stA M6 ty31 rfl rfl rfl (h32_len (by first | assumption | exact h32_0)) (bytesV_one _) (i := 2) rfl (by first | (rw [h32_len (by first | assumption | exact h32_0), h32_len (by first | assumption | exact h32_0)]; decide) | (rw [h32_len (by first | assumption | exact h32_0)]; decide) | rw [h32_len (by first | assumption | exact h32_0)])) ?_; rintro v7 w7 ⟨K7, M7⟩
  try dsimp only [List.set] at M7
  rw [splice_all _ _ (by first | rw [h32_len (by first | assumption | exact h32_0), h32_len (by first | assumption | exact h32_0)] | rw [h32_len (by first | assumption | exact h32_0)])] at M7
  refine qE ?_
  refine WC.ret ?_
  refine WX.retc rfl rfl (run_loadVarA ty31 (h32_len (by first | assumption | exact h32_0)) (M7.rdw (i := 2) rfl)) ?_
  exact ⟨rfl, M7.keep⟩

/- sponsion/domain.Leaf -/
theorem leaf_ok (w : World) (A : Option Addr) (c : Nat) (b : List UInt8) (hr : Rd w A (bytesV b)) (hT : Tabs w) (hb : b.length ≤ 4000000000) :
    Gives Tryd.prog 56 #[.slice A b.length c] w fun u w1 => u = .agg (bytesV (dLeaf b)).toArray ∧ Keep nof w w1 := by
  have M0 := Mem.start w nof
  have hs32 := dLeaf_len b
  refine Gives.enter (n := 6) Tryd.func56 rfl Tryd.ntmps56 rfl (env := [(0, .slice A b.length c)]) rfl ?_
  refine qD ?_
  refine WL.ac rfl rfl rfl (Ac.alloc M0 (l := bytesV (List.replicate 32 0)) (by kernel_rfl)) ?_; rintro v1 w1 ⟨g1, rfl, hg1, K1, M1⟩
  refine qE ?_
  refine qD ?_
  refine qA ?_
  refine WL.ac rfl rfl rfl (Ac.bs M1 (parts := [(0, .tmp 3)]) (l := [svV ⟨A, c, b⟩]) rfl rfl (LitS.one el153 rfl)) ?_; rintro v3 w3 ⟨g2, rfl, hg3, K3, M3⟩
  refine WL.ac rfl rfl rfl (Ac.call rfl Tryd.func85 nm85 rfl (domOf_ok w3 0 _ _ [⟨A, c, b⟩] (by decide) (RdP.one (M3.get (i := 0) rfl) (M3.rd hr)) (hT.keep M3.keep) (by simp; omega) (by simp [txt_length]; omega))) ?_; rintro v4 w4 ⟨rfl, K4⟩
  rw [show dOf 0 (([⟨A, c, b⟩] : List SV).map (·.l)) = dLeaf b from rfl]
  have M4 := M3.step K4
  refine WL.ac0 rfl rfl (Ac.stA M4 ty31 rfl rfl rfl (h32_len (by first | assumption | exact h32_0)) (bytesV_one _) (i := 1) rfl (by first | (rw [h32_len (by first | assumption | exact h32_0), h32_len (by first | assumption | exact h32_0)]; decide) | (rw [h32_len (by first | assumption | exact h32_0)]; decide) | rw [h32_len (by first | assumption | exact h32_0)])) ?_; rintro v5 w5 ⟨K5, M5⟩
  try dsimp only [List.set] at M5
  rw [splice_all _ _ (by first | rw [h32_len (by first | assumption | exact h32_0), h32_len (by first | assumption | exact h32_0)] | rw [h32_len (by first | assumption | exact h32_0)])] at M5
  refine qE ?_
  refine WC.ret ?_
  refine WX.retc rfl rfl (run_loadVarA ty31 (h32_len (by first | assumption | exact h32_0)) (M5.rdw (i := 1) rfl)) ?_
  exact ⟨rfl, M5.keep⟩

/- sponsion/domain.Node -/
theorem node_ok (w : World) (a b : List UInt8) (ha : H32 a) (hb : H32 b) (hT : Tabs w) :
    Gives Tryd.prog 74 #[.agg (bytesV a).toArray, .agg (bytesV b).toArray] w fun u w1 => u = .agg (bytesV (dNode a b)).toArray ∧ Keep nof w w1 := by
  have M0 := Mem.start w nof
  have hs32 := dNode_len a b
  refine Gives.enter (n := 9) Tryd.func74 rfl Tryd.ntmps74 rfl (env := [(0, .agg (bytesV a).toArray), (1, .agg (bytesV b).toArray)]) rfl ?_
  refine qD ?_
  refine WL.ac rfl rfl rfl (Ac.box M0 rfl rfl) ?_; rintro v1 w1 ⟨ga, rfl, hg1, K1, M1⟩
  refine WL.ac rfl rfl rfl (Ac.box M1 rfl rfl) ?_; rintro v2 w2 ⟨gb, rfl, hg2, K2, M2⟩
  refine WL.ac rfl rfl rfl (Ac.alloc M2 (l := bytesV (List.replicate 32 0)) (by kernel_rfl)) ?_; rintro v3 w3 ⟨g1, rfl, hg3, K3, M3⟩
  refine qE ?_
  refine WC.seq ?_
  refine WC.draw (Keep nof w3.drew) [2, 3, 4] (.one 0 0 (.one 1 0 (.one 2 2 (.one 3 2 (.one 4 2 .nil))))) mixed (by kernel_rfl) (by kernel_rfl) (by kernel_rfl) (HQ.then_ HQ.body) ?_
  obtain ⟨w4, hw4⟩ : ∃ v, v = w3.drew := ⟨_, rfl⟩
  have D4 : Keep nof w3 w4 := by rw [hw4]; exact Keep.drew _ _
  have M4 := M3.step D4
  rw [← hw4]; clear hw4
  refine WP.p rfl rfl rfl rfl (fun _ => Ex.slA Tryd.underlying31 sz5 rfl) ?_
  refine WP.p rfl rfl rfl rfl (fun _ => Ex.slA Tryd.underlying31 sz5 rfl) ?_
  refine WP.a rfl rfl rfl rfl (Ac.bs M4 (parts := [(0, .tmp 5), (1, .tmp 6)]) (l := [.slice (some ⟨ga, 0, none⟩) 32 32, .slice (some ⟨gb, 0, none⟩) 32 32]) rfl rfl ⟨Tryd.underlying153, 1, #[.slice none 0 0], sz112, by decide, fun _ => by kernel_rfl, by kernel_rfl⟩) ?_; rintro v7 w7 ⟨g2, rfl, hg7, K7, M7⟩; refine .inl ⟨rfl, Keep nof w7, ?_⟩
  replace M7 := M7.eqv (i := 0) rfl (r' := blk g2 [svV ⟨some ⟨ga, 0, none⟩, 32, a⟩, svV ⟨some ⟨gb, 0, none⟩, 32, b⟩] 112) (by simp only [svV, ha, hb])
  try dsimp only [List.set] at M7
  refine WP.a rfl rfl rfl rfl (Ac.call rfl Tryd.func85 nm85 rfl (domOf_ok w7 1 _ _ [⟨some ⟨ga, 0, none⟩, 32, a⟩, ⟨some ⟨gb, 0, none⟩, 32, b⟩] (by decide) ⟨M7.rdw (i := 0) rfl, fun p hp => by simp only [List.mem_cons, List.not_mem_nil, or_false] at hp; rcases hp with rfl | rfl <;> first | exact M7.rdw (i := 3) rfl | exact M7.rdw (i := 2) rfl⟩ (hT.keep M7.keep) (fun p hp => by simp only [List.mem_cons, List.not_mem_nil, or_false] at hp; rcases hp with rfl | rfl <;> (simp only [ha, hb]; decide)) (by show (txt 1 [a, b]).length ≤ _; rw [txt_2, ha, hb]; decide))) ?_; rintro v8 w8 ⟨rfl, K8⟩; refine .inl ⟨rfl, Keep nof w8, ?_⟩
  rw [show dOf 1 (([⟨some ⟨ga, 0, none⟩, 32, a⟩, ⟨some ⟨gb, 0, none⟩, 32, b⟩] : List SV).map (·.l)) = dNode a b from rfl]
  have M8 := M7.step K8
  refine WP.a0 rfl rfl rfl (Ac.stA M8 ty31 rfl rfl rfl (h32_len (by first | assumption | exact h32_0)) (bytesV_one _) (i := 1) rfl (by first | (rw [h32_len (by first | assumption | exact h32_0), h32_len (by first | assumption | exact h32_0)]; decide) | (rw [h32_len (by first | assumption | exact h32_0)]; decide) | rw [h32_len (by first | assumption | exact h32_0)])) ?_; rintro v9 w9 ⟨K9, M9⟩; refine .inl ⟨rfl, Keep nof w9, ?_⟩
  try dsimp only [List.set] at M9
  rw [splice_all _ _ (by first | rw [h32_len (by first | assumption | exact h32_0), h32_len (by first | assumption | exact h32_0)] | rw [h32_len (by first | assumption | exact h32_0)])] at M9
  refine WP.nil ?_
  refine WX.next ?_
  refine WC.ret ?_
  refine WX.retc rfl rfl (run_loadVarA ty31 (h32_len (by first | assumption | exact h32_0)) (M9.rdw (i := 1) rfl)) ?_
  exact ⟨rfl, M9.keep⟩

/- sponsion/domain.Empty -/
theorem empty_ok (w : World) (z : Int) (hz : -9223372036854775808 ≤ z ∧ z ≤ 9223372036854775807) (hT : Tabs w) :
    Gives Tryd.prog 78 #[.int .i64 z] w fun u w1 => u = .agg (bytesV (emptyH (lvl z))).toArray ∧ Keep nof w w1 := by
  have M0 := Mem.start w nof
  have hl32 := lvl_le z
  refine Gives.enter (n := 15) Tryd.func78 rfl Tryd.ntmps78 rfl (env := [(0, .int .i64 z)]) rfl ?_
  refine qD ?_
  refine WL.ac rfl rfl rfl (Ac.alloc M0 (l := bytesV (List.replicate 32 0)) (by kernel_rfl)) ?_; rintro v1 w1 ⟨g1, rfl, hg1, K1, M1⟩
  refine qE ?_
  refine qD ?_
  refine WL.ac rfl rfl rfl (Ac.call rfl Tryd.func85 nm85 rfl (domOf_ok w1 2 _ _ [] (by decide) (RdP.nil _ _) (hT.keep M1.keep) (by simp) (by decide))) ?_; rintro v2 w2 ⟨rfl, K2⟩
  rw [show dOf 2 (([] : List SV).map (·.l)) = emptyH 0 from rfl]
  have M2 := M1.step K2
  refine WL.ac rfl rfl rfl (Ac.alloc M2 (l := bytesV (List.replicate 32 0)) (by kernel_rfl)) ?_; rintro v3 w3 ⟨gh, rfl, hg3, K3, M3⟩
  refine WL.ac0 rfl rfl (Ac.stA M3 ty31 rfl rfl rfl (h32_len (emptyH_len 0)) (bytesV_one _) (i := 0) rfl (by rw [h32_len (emptyH_len 0), h32_len h32_0]; decide)) ?_; rintro v4 w4 ⟨K4, M4⟩
  try dsimp only [List.set] at M4
  rw [splice_all _ _ (by rw [h32_len (emptyH_len 0), h32_len h32_0])] at M4
  refine qE ?_
  refine WC.seq ?_
  refine qD ?_
  refine qA ?_
  refine WL.ex rfl rfl rfl (Ex.min2 rfl rfl (c := min z 32) (by split <;> omega)) ?_
  refine WL.ex rfl rfl rfl (Ex.max2 rfl rfl (c := ((lvl z : Nat) : Int)) (by unfold lvl; split <;> omega)) ?_
  refine qA ?_
  refine qE ?_
  refine WC.block ?_
  refine WC.loop (σ := Nat) (fun i => [(2, .pointer (some ⟨g1, 0, none⟩)), (3, .pointer (some ⟨gh, 0, none⟩)), (7, .int .i64 ((lvl z : Nat) : Int)), (8, .int .i64 (i : Int))]) (fun i wr => i ≤ lvl z ∧ Mem w wr nof [blk gh (bytesV (emptyH i)) 31, blk g1 (bytesV (List.replicate 32 0)) 31]) (fun i => lvl z - i) (0) ?_ (.cons rfl (.cons rfl (.cons rfl (.cons rfl (.nil))))) ?_
  · exact ⟨by omega, M4⟩
  rintro i w9 ⟨hi, M9⟩
  refine qD ?_
  refine WL.ex rfl rfl rfl (Ex.lss rfl rfl) ?_
  refine qE ?_
  refine WC.seq ?_
  refine WC.cond_dec rfl (fun hin => ?_) (fun hin => ?_)
  · have hei := emptyH_len i
    have hei1 := emptyH_len (i + 1)
    refine WC.skip ?_
    refine WX.next ?_
    refine WC.seq ?_
    refine WC.block ?_
    refine WC.region ?_
    refine WL.ex rfl rfl rfl (Ex.loadA ty31 rfl (h32_len (by first | assumption | exact h32_0)) (M9.rdw (i := 0) rfl)) ?_
    refine WL.ex rfl rfl rfl (Ex.loadA ty31 rfl (h32_len (by first | assumption | exact h32_0)) (M9.rdw (i := 0) rfl)) ?_
    refine WL.ac rfl rfl rfl (Ac.call rfl Tryd.func74 nm74 rfl (node_ok w9 _ _ hei hei (hT.keep M9.keep))) ?_; rintro v13 w13 ⟨rfl, K13⟩
    rw [show dNode (emptyH i) (emptyH i) = emptyH (i + 1) from rfl]
    have M13 := M9.step K13
    refine WL.ac0 rfl rfl (Ac.stA M13 ty31 rfl rfl rfl (h32_len (by first | assumption | exact h32_0)) (bytesV_one _) (i := 0) rfl (by first | (rw [h32_len (by first | assumption | exact h32_0), h32_len (by first | assumption | exact h32_0)]; decide) | (rw [h32_len (by first | assumption | exact h32_0)]; decide) | rw [h32_len (by first | assumption | exact h32_0)])) ?_; rintro v14 w14 ⟨K14, M14⟩
    try dsimp only [List.set] at M14
    rw [splice_all _ _ (by first | rw [h32_len (by first | assumption | exact h32_0), h32_len (by first | assumption | exact h32_0)] | rw [h32_len (by first | assumption | exact h32_0)])] at M14
    refine WL.nil ?_
    refine WX.normal_block (WX.next (?_))
    refine WC.region ?_
    refine WL.ex rfl rfl rfl (Ex.add rfl rfl (i64w _ (by omega) (by omega))) ?_
    refine qA ?_
    refine WL.nil ?_
    refine WX.again (i + 1) ?_ ?_ (.cons rfl (.cons rfl (.cons rfl (.cons rfl (.nil)))))
    · (try dsimp only); omega
    · exact ⟨by omega, M14⟩
  · obtain rfl : i = lvl z := by omega
    have hei := emptyH_len (lvl z)
    refine WC.exit ?_
    refine WX.exit_then (WX.exit_then (WX.exit_block (WX.next (?_))))
    refine qD ?_
    refine WL.ex rfl rfl rfl (Ex.loadA ty31 rfl (h32_len (by first | assumption | exact h32_0)) (M9.rdw (i := 0) rfl)) ?_
    refine WL.ac0 rfl rfl (Ac.stA M9 ty31 rfl rfl rfl (h32_len (by first | assumption | exact h32_0)) (bytesV_one _) (i := 1) rfl (by first | (rw [h32_len (by first | assumption | exact h32_0), h32_len (by first | assumption | exact h32_0)]; decide) | (rw [h32_len (by first | assumption | exact h32_0)]; decide) | rw [h32_len (by first | assumption | exact h32_0)])) ?_; rintro v18 w18 ⟨K18, M18⟩
    try dsimp only [List.set] at M18
    rw [splice_all _ _ (by first | rw [h32_len (by first | assumption | exact h32_0), h32_len (by first | assumption | exact h32_0)] | rw [h32_len (by first | assumption | exact h32_0)])] at M18
    refine qE ?_
    refine WC.ret ?_
    refine WX.retc rfl rfl (run_loadVarA ty31 (by exact h32_len (emptyH_len _)) (M18.rdw (i := 1) rfl)) ?_
    exact ⟨rfl, M18.keep⟩

end Go.Proofs.YtchmjpdkonfifaaDoor

set_option linter.unusedVariables false
set_option linter.unusedSimpArgs false
namespace Go.Proofs.YtchmjpdkonfifaaDoor
open Go.Sx Go.RowKit
attribute [local irreducible] Ac Ex WL WC WX WP Gives sha

/- sponsion/sponsionref04.Num -/
theorem num4_ok (w : World) (x size : Nat) (hx : x < 18446744073709551616) (hs : size ≤ 1000) :
    Gives Tryd.prog 96 #[.int .u64 (x : Int), .int .i64 (size : Int)] w fun u w1 => u = str (be size x) ∧ Keep nof w w1 := by
  have M0 := Mem.start w nof
  refine Gives.enter (n := 20) Tryd.func96 rfl Tryd.ntmps96 rfl (env := [(0, .int .u64 (x : Int)), (1, .int .i64 (size : Int))]) rfl ?_
  refine qD ?_
  refine qB ?_
  refine qE ?_
  refine qD ?_
  refine qB ?_
  refine qE ?_
  refine WC.seq ?_
  refine qD ?_
  refine qA ?_
  refine qA ?_
  refine qE ?_
  refine WC.block ?_
  refine WC.loop (σ := Nat) (fun i => [(0, .int .u64 ((x / 256 ^ i : Nat) : Int)), (5, str (be i x)), (6, .int .i64 (size : Int)), (7, .int .i64 (i : Int))]) (fun i wr => i ≤ size ∧ Mem w wr nof []) (fun i => size - i) (0) ?_ (.cons (congrArg some (congrArg (Value.int .u64) (by simp))) (.cons rfl (.cons rfl (.cons rfl .nil)))) ?_
  · exact ⟨by omega, M0⟩
  rintro i w5 ⟨hi, M5⟩
  refine qD ?_
  refine WL.ex rfl rfl rfl (Ex.lss rfl rfl) ?_
  refine qE ?_
  refine WC.seq ?_
  refine WC.cond_dec rfl (fun hc8 => ?_) (fun hc8 => ?_)
  · skip
    refine WC.skip ?_
    refine WX.next ?_
    refine WC.seq ?_
    refine WC.block ?_
    refine qD ?_
    refine qA ?_
    refine WL.ex rfl rfl rfl (Ex.rem rfl rfl (by decide) (c := ((x / 256 ^ i % 256 : Nat) : Int)) (remN _ 256)) ?_
    refine WL.ex rfl rfl rfl (Ex.cvI Tryd.underlying23 Tryd.underlying5 rfl (c := ((UInt8.ofNat (x / 2 ^ (8 * i))).toNat : Int)) (by rw [u8b, ofNat_mod, Nat.pow_mul])) ?_
    refine WL.ac rfl rfl rfl (Ac.bs M5 (parts := [(0, .tmp 11)]) rfl rfl (LitS.one el112 rfl)) ?_; rintro v10 w10 ⟨g10, rfl, hg10, K10, M10⟩
    refine WL.ex rfl rfl rfl (Ex.cvBS Tryd.underlying112 Tryd.underlying5 Tryd.underlying9 rfl (l := [UInt8.ofNat (x / 2 ^ (8 * i))]) (M10.rdw (i := 0) rfl)) ?_
    refine qA ?_
    refine WL.ex rfl rfl rfl (Ex.addS rfl rfl (by simp; omega)) ?_
    refine qB ?_
    refine qE ?_
    refine WC.region ?_
    refine qA ?_
    refine WL.ex rfl rfl rfl (Ex.quo rfl rfl (by decide) (c := ((x / 256 ^ (i + 1) : Nat) : Int)) (by rw [Nat.pow_succ, ← Nat.div_div_eq_div_mul]; exact u64quo _ 256 (Nat.lt_of_le_of_lt (Nat.div_le_self _ _) hx))) ?_
    refine qB ?_
    refine WL.nil ?_
    refine WX.normal_block (WX.next (?_))
    refine WC.region ?_
    refine WL.ex rfl rfl rfl (Ex.add rfl rfl (i64w _ (by omega) (by omega))) ?_
    refine qA ?_
    refine WL.nil ?_
    refine WX.again (i + 1) ?_ ?_ (.cons rfl (.cons rfl (.cons rfl (.cons rfl (.nil)))))
    · (try dsimp only); omega
    · exact ⟨by omega, M10.drop1⟩
  · obtain rfl : i = size := by omega
    refine WC.exit ?_
    refine WX.exit_then (WX.exit_then (WX.exit_block (WX.next (?_))))
    refine qD ?_
    refine qA ?_
    refine qB ?_
    refine qE ?_
    refine WC.ret ?_
    refine WX.ret1 rfl rfl ?_
    exact ⟨rfl, M5.keep⟩

/-- A slice of texts that can be read. -/
abbrev RdS (w : World) (A : Option Addr) (ts : List (List UInt8)) : Prop := Rd w A (ts.map str)
theorem RdS.plain {w : World} {A : Option Addr} {ts : List (List UInt8)} (h : RdS w A ts) {i : Nat} {p : List UInt8} (hp : ts[i]? = some p) : ∃ b o, A = some ⟨b, o, none⟩ := by
  obtain ⟨b, o, hA, _⟩ := Rd.plain h (by have := (List.getElem?_eq_some_iff.1 hp).1; simp; omega)
  exact ⟨b, o, hA⟩
theorem strs_one (ts : List (List UInt8)) : ∀ u ∈ ts.map str, u.oneCell' = true := by
  intro u hu
  obtain ⟨x, _, rfl⟩ := List.mem_map.1 hu
  rfl
theorem hidx {C : List UInt8 → List Value} {l : List (List UInt8)} : True := trivial

/- sponsion/sponsionref06.Text -/
theorem text6_ok (w : World) (tag : Nat) (A : Option Addr) (c : Nat) (ts : List (List UInt8)) (ht : tag < 256) (hr : RdS w A ts) (hp : ∀ p ∈ ts, p.length < 4294967296) (hb : (txt tag ts).length ≤ 1000000000000) (hn : ts.length ≤ 1000000000000) :
    Gives Tryd.prog 95 #[.int .u8 (tag : Int), .slice A ts.length c] w fun u w1 => u = str (txt tag ts) ∧ Keep nof w w1 := by
  have M0 := Mem.start w nof
  refine Gives.enter (n := 27) Tryd.func95 rfl Tryd.ntmps95 rfl (env := [(0, .int .u8 (tag : Int)), (1, .slice A ts.length c)]) rfl ?_
  refine qD ?_
  refine qB ?_
  refine qE ?_
  refine qD ?_
  refine qA ?_
  refine WL.ex rfl rfl rfl (Ex.cvI Tryd.underlying5 Tryd.underlying23 rfl (u64w_lt _ (by omega))) ?_
  refine WL.ac rfl rfl rfl (Ac.call rfl Tryd.func96 nm96 rfl (num4_ok w tag 1 (by omega) (by decide))) ?_; rintro v4 w4 ⟨rfl, K4⟩
  rw [show be 1 tag = txt tag [] by simp [txt]]
  have M4 := M0.step K4
  refine qB ?_
  refine qE ?_
  refine WC.seq ?_
  refine qD ?_
  refine qA ?_
  refine WL.ex rfl rfl rfl (Ex.len Tryd.underlying135 rfl) ?_
  refine qA ?_
  refine qE ?_
  refine WC.block ?_
  refine WC.loop (σ := Nat) (fun i => [(5, str (txt tag (ts.take i))), (11, .slice A ts.length c), (12, .int .i64 (ts.length : Int)), (13, .int .i64 (i : Int))]) (fun i wr => i ≤ ts.length ∧ Mem w wr nof []) (fun i => ts.length - i) (0) ?_ (.cons rfl (.cons rfl (.cons rfl (.cons rfl (.nil))))) ?_
  · exact ⟨by omega, M4⟩
  rintro i w9 ⟨hi, M9⟩
  refine qD ?_
  refine WL.ex rfl rfl rfl (Ex.lss rfl rfl) ?_
  refine qE ?_
  refine WC.seq ?_
  refine WC.cond_dec rfl (fun hin => ?_) (fun hin => ?_)
  · obtain ⟨p, hpi⟩ : ∃ p, ts[i]? = some p := ⟨_, List.getElem?_eq_getElem (by omega)⟩
    have hpm : p ∈ ts := List.mem_of_getElem? hpi
    obtain ⟨b0, o0, hA⟩ := RdS.plain hr hpi
    subst hA
    have hp4 := hp p hpm
    have hsn := take_snoc hpi
    have hle := txt_take_le tag ts (i + 1)
    rw [hsn, txt_snoc] at hle
    simp only [List.length_append, be_length] at hle
    refine WC.skip ?_
    refine WX.next ?_
    refine WC.seq ?_
    refine WC.block ?_
    refine qD ?_
    refine WL.ex rfl rfl rfl (Ex.ia Tryd.underlying135 sz9 rfl rfl ⟨by omega, by omega⟩) ?_
    refine WL.ex rfl rfl rfl (Ex.load ty9 rfl (Rd.at1 (u := str p) (hr.keep0 M9.keep) (j := (i : Int).toNat * 1) (by simp [hpi]))) ?_
    refine qB ?_
    refine qE ?_
    refine WC.region ?_
    refine qA ?_
    refine qA ?_
    refine WL.ex rfl rfl rfl (Ex.lenS Tryd.underlying9 rfl) ?_
    refine WL.ex rfl rfl rfl (Ex.cvI Tryd.underlying3 Tryd.underlying23 rfl (u64w_lt _ (by omega))) ?_
    refine WL.ac rfl rfl rfl (Ac.call rfl Tryd.func96 nm96 rfl (num4_ok w9 p.length 4 (by omega) (by decide))) ?_; rintro v18 w18 ⟨rfl, K18⟩
    have M18 := M9.step K18
    refine WL.ex rfl rfl rfl (Ex.addS rfl rfl (by simp only [be_length]; omega)) ?_
    refine qA ?_
    refine WL.ex rfl rfl rfl (Ex.addS rfl rfl (by simp only [List.length_append, be_length]; omega)) ?_
    rw [← txt_snoc, ← hsn]
    refine qB ?_
    refine WL.nil ?_
    refine WX.normal_block (WX.next (?_))
    refine WC.region ?_
    refine WL.ex rfl rfl rfl (Ex.add rfl rfl (i64w _ (by omega) (by omega))) ?_
    refine qA ?_
    refine WL.nil ?_
    refine WX.again (i + 1) ?_ ?_ (.cons rfl (.cons rfl (.cons rfl (.cons rfl (.nil)))))
    · (try dsimp only); omega
    · exact ⟨by omega, M18⟩
  · obtain rfl : i = ts.length := by omega
    rw [List.take_length]
    refine WC.exit ?_
    refine WX.exit_then (WX.exit_then (WX.exit_block (WX.next (?_))))
    refine qD ?_
    refine qA ?_
    refine qB ?_
    refine qE ?_
    refine WC.ret ?_
    refine WX.ret1 rfl rfl ?_
    exact ⟨rfl, M9.keep⟩

/- sponsion/sponsionref06.Of -/
theorem refOf_ok (w : World) (tag : Nat) (A : Option Addr) (c : Nat) (ts : List (List UInt8)) (ht : tag < 256) (hr : RdS w A ts) (hR : TabR w) (hp : ∀ p ∈ ts, p.length < 4294967296) (hb : (txt tag ts).length ≤ 1000000000000) (hn : ts.length ≤ 1000000000000) :
    Gives Tryd.prog 79 #[.int .u8 (tag : Int), .slice A ts.length c] w fun u w1 => u = .agg (bytesV (dOf tag ts)).toArray ∧ Keep nof w w1 := by
  have M0 := Mem.start w nof
  have hs32 := dOf_len tag ts
  refine Gives.enter (n := 10) Tryd.func79 rfl Tryd.ntmps79 rfl (env := [(0, .int .u8 (tag : Int)), (1, .slice A ts.length c)]) rfl ?_
  refine qD ?_
  refine WL.ac rfl rfl rfl (Ac.alloc M0 (l := bytesV (List.replicate 32 0)) (by kernel_rfl)) ?_; rintro v1 w1 ⟨g1, rfl, hg1, K1, M1⟩
  refine qE ?_
  refine qD ?_
  refine qA ?_
  refine qA ?_
  refine WL.ac rfl rfl rfl (Ac.call rfl Tryd.func95 nm95 rfl (text6_ok w1 tag A c ts ht (hr.keep0 M1.keep) hp hb hn)) ?_; rintro v4 w4 ⟨rfl, K4⟩
  have M4 := M1.step K4
  refine WL.ac rfl rfl rfl (Ac.cvSB M4 Tryd.underlying9 Tryd.underlying112 Tryd.underlying5 rfl) ?_; rintro v5 w5 ⟨gs, cs, rfl, hg5, K5, M5⟩
  refine WL.ac rfl rfl rfl (Ac.call rfl Tryd.func94 nm94 rfl (rsum_ok w5 _ cs (txt tag ts) (M5.datrd (i := 0) rfl) (hR.keep0 M5.keep) hb)) ?_; rintro v6 w6 ⟨rfl, K6⟩
  rw [show sha (txt tag ts) = dOf tag ts from rfl]
  have M6 := M5.step K6
  refine WL.ac0 rfl rfl (Ac.stA M6 ty31 rfl rfl rfl (h32_len (by first | assumption | exact h32_0)) (bytesV_one _) (i := 1) rfl (by first | (rw [h32_len (by first | assumption | exact h32_0), h32_len (by first | assumption | exact h32_0)]; decide) | (rw [h32_len (by first | assumption | exact h32_0)]; decide) | rw [h32_len (by first | assumption | exact h32_0)])) ?_; rintro v7 w7 ⟨K7, M7⟩
  try dsimp only [List.set] at M7
  rw [splice_all _ _ (by first | rw [h32_len (by first | assumption | exact h32_0), h32_len (by first | assumption | exact h32_0)] | rw [h32_len (by first | assumption | exact h32_0)])] at M7
  refine qE ?_
  refine WC.ret ?_
  refine WX.retc rfl rfl (run_loadVarA ty31 (h32_len (by first | assumption | exact h32_0)) (M7.rdw (i := 1) rfl)) ?_
  exact ⟨rfl, M7.keep⟩

/- sponsion/sponsionref06.Node -/
theorem refNode_ok (w : World) (a b : List UInt8) (ha : H32 a) (hb : H32 b) (hR : TabR w) :
    Gives Tryd.prog 76 #[.agg (bytesV a).toArray, .agg (bytesV b).toArray] w fun u w1 => u = .agg (bytesV (dNode a b)).toArray ∧ Keep nof w w1 := by
  have M0 := Mem.start w nof
  have hs32 := dNode_len a b
  refine Gives.enter (n := 11) Tryd.func76 rfl Tryd.ntmps76 rfl (env := [(0, .agg (bytesV a).toArray), (1, .agg (bytesV b).toArray)]) rfl ?_
  refine qD ?_
  refine WL.ac rfl rfl rfl (Ac.box M0 rfl rfl) ?_; rintro v1 w1 ⟨ga, rfl, hg1, K1, M1⟩
  refine WL.ac rfl rfl rfl (Ac.box M1 rfl rfl) ?_; rintro v2 w2 ⟨gb, rfl, hg2, K2, M2⟩
  refine WL.ac rfl rfl rfl (Ac.alloc M2 (l := bytesV (List.replicate 32 0)) (by kernel_rfl)) ?_; rintro v3 w3 ⟨g1, rfl, hg3, K3, M3⟩
  refine qE ?_
  refine WC.seq ?_
  refine WC.draw (Keep nof w3.drew) [4, 6] (.one 0 0 (.one 2 0 (.one 1 1 (.one 3 1 (.one 4 2 (.one 5 2 (.one 6 2 .nil))))))) mixed (by kernel_rfl) (by kernel_rfl) (by kernel_rfl) (HQ.then_ HQ.body) ?_
  obtain ⟨w4, hw4⟩ : ∃ v, v = w3.drew := ⟨_, rfl⟩
  have D4 : Keep nof w3 w4 := by rw [hw4]; exact Keep.drew _ _
  have M4 := M3.step D4
  rw [← hw4]; clear hw4
  refine WP.p rfl rfl rfl rfl (fun _ => Ex.slA Tryd.underlying31 sz5 rfl) ?_
  refine WP.p rfl rfl rfl rfl (fun _ => Ex.slA Tryd.underlying31 sz5 rfl) ?_
  refine WP.q (Keep.refl _ _) rfl rfl rfl rfl (fun w' hS => Ex.cvBSn Tryd.underlying112 Tryd.underlying5 Tryd.underlying9 rfl ha.symm ((M4.rdw (i := 2) rfl).keep0 hS)) ?_
  refine WP.q (Keep.refl _ _) rfl rfl rfl rfl (fun w' hS => Ex.cvBSn Tryd.underlying112 Tryd.underlying5 Tryd.underlying9 rfl hb.symm ((M4.rdw (i := 1) rfl).keep0 hS)) ?_
  refine WP.a rfl rfl rfl rfl (Ac.bs M4 (parts := [(0, .tmp 6), (1, .tmp 8)]) (l := [str a, str b]) rfl rfl ⟨Tryd.underlying135, 1, #[.string ⟨#[]⟩], sz9, by decide, fun _ => by kernel_rfl, by kernel_rfl⟩) ?_; rintro v9 w9 ⟨g2, rfl, hg9, K9, M9⟩; refine .inl ⟨rfl, Keep nof w9, ?_⟩
  refine WP.as rfl rfl rfl rfl (Ac.call rfl Tryd.func79 nm79 rfl (refOf_ok w9 1 _ _ [a, b] (by decide) (M9.rdw (i := 0) rfl) (hR.keep0 M9.keep) (fun p hp => by simp only [List.mem_cons, List.not_mem_nil, or_false] at hp; rcases hp with rfl | rfl <;> (simp only [ha, hb]; decide)) (by rw [txt_2, ha, hb]; decide) (by simp))) ?_; rintro v10 w10 ⟨rfl, K10⟩
  refine ⟨Keep nof w10, fun u h => K10.trans h, Keep.refl _ _, ?_⟩
  rw [show dOf 1 [a, b] = dNode a b from rfl]
  have M10 := M9.step K10
  refine WP.a0 rfl rfl rfl (Ac.stA M10 ty31 rfl rfl rfl (h32_len (by first | assumption | exact h32_0)) (bytesV_one _) (i := 1) rfl (by first | (rw [h32_len (by first | assumption | exact h32_0), h32_len (by first | assumption | exact h32_0)]; decide) | (rw [h32_len (by first | assumption | exact h32_0)]; decide) | rw [h32_len (by first | assumption | exact h32_0)])) ?_; rintro v11 w11 ⟨K11, M11⟩; refine .inl ⟨rfl, Keep nof w11, ?_⟩
  try dsimp only [List.set] at M11
  rw [splice_all _ _ (by first | rw [h32_len (by first | assumption | exact h32_0), h32_len (by first | assumption | exact h32_0)] | rw [h32_len (by first | assumption | exact h32_0)])] at M11
  refine WP.nil ?_
  refine WX.next ?_
  refine WC.ret ?_
  refine WX.retc rfl rfl (run_loadVarA ty31 (h32_len (by first | assumption | exact h32_0)) (M11.rdw (i := 1) rfl)) ?_
  exact ⟨rfl, M11.keep⟩

abbrev empC (l : List (List UInt8)) : List Value := l.flatMap bytesV
abbrev EmpOk (l : List (List UInt8)) : Prop := ArrOk 33 (fun a => H32 a) l
theorem emp_len {l : List (List UInt8)} (h : EmpOk l) : (empC l).length = 1056 := arr_len (fun h => h32_len h) h rfl
theorem emp_one {l : List (List UInt8)} : ∀ u ∈ empC l, u.oneCell' = true := flat_one' fun _ => (bytesV_one _)
abbrev emp0 : List (List UInt8) := List.replicate 33 (List.replicate 32 0)
theorem emp0_ok : EmpOk emp0 := ⟨by simp, fun a ha => by rw [List.eq_of_mem_replicate ha]; exact h32_0⟩
theorem empC_inj {a b : List (List UInt8)} (ha : EmpOk a) (hb : EmpOk b) (h : empC a = empC b) : a = b := flat_inj (ok := fun a => H32 a) (fun _ _ e => (fun e => bytesV_inj e) e) (fun h => h32_len h) (by rw [ha.len, hb.len]) ha.mem hb.mem h
abbrev empK : List CK := rep 33 (rep 32 [.int .u8])
theorem oks_emp {w : World} {l : List (List UInt8)} (h : EmpOk l) : CK.oks w empK (empC l) := oks_arr (fun h => oks_h32 h) h
theorem emp_view {w : World} : ∀ vs, CK.oks w empK vs → ∃ a, vs = empC a ∧ EmpOk a := arr_view h32_view 33

/-- The sums of trees without leaves, of the first k levels. -/
def empTo (k : Nat) : List (List UInt8) := (List.range 33).map fun i => if i < k then emptyH i else List.replicate 32 0
theorem empTo_ok (k : Nat) : EmpOk (empTo k) := ⟨by simp [empTo], fun a ha => by
  obtain ⟨i, _, rfl⟩ := List.mem_map.1 ha
  split
  · exact emptyH_len _
  · exact h32_0⟩
theorem empTo_0 : empTo 0 = emp0 := by
  apply List.ext_getElem
  · simp only [empTo, emp0, List.length_map, List.length_range, List.length_replicate]
  · intro i h1 h2
    simp only [empTo, emp0, List.getElem_map, List.getElem_range, List.getElem_replicate]
    rw [if_neg (by omega)]
theorem empTo_get {k i : Nat} (h : i < k) (hi : i < 33) : (empTo k)[i]? = some (emptyH i) := by
  rw [empTo, List.getElem?_map, List.getElem?_range hi]
  simp [h]
theorem empTo_set {k : Nat} (hk : k < 33) : (empTo k).set k (emptyH k) = empTo (k + 1) := by
  apply List.ext_getElem
  · simp [empTo]
  · intro i h1 h2
    simp only [empTo, List.getElem_set, List.getElem_map, List.getElem_range]
    split
    · rename_i e; subst e; rw [if_pos (by omega)]
    · rename_i e
      by_cases h3 : i < k
      · rw [if_pos h3, if_pos (by omega)]
      · rw [if_neg h3, if_neg (by omega)]
theorem empTo_l (k : Nat) : ∀ a ∈ empTo k, (bytesV a).length = 32 := fun a ha => h32_len ((empTo_ok k).mem a ha)

/- sponsion/sponsionref06.Empties -/
theorem empties_ok (w : World) (hR : TabR w) :
    Gives Tryd.prog 45 #[] w fun u w1 => u = .agg (empC (empTo 33)).toArray ∧ Keep nof w w1 := by
  have M0 := Mem.start w nof
  have he33 := empTo_ok 33
  refine Gives.enter (n := 21) Tryd.func45 rfl Tryd.ntmps45 rfl (env := []) rfl ?_
  refine qD ?_
  refine WL.ac rfl rfl rfl (Ac.alloc M0 (l := empC emp0) (by kernel_rfl)) ?_; rintro v1 w1 ⟨g1, rfl, hg1, K1, M1⟩
  refine qE ?_
  refine qD ?_
  refine WL.ac rfl rfl rfl (Ac.alloc M1 (l := empC emp0) (by kernel_rfl)) ?_; rintro v2 w2 ⟨ge, rfl, hg2, K2, M2⟩
  rw [← empTo_0] at M2
  refine qE ?_
  refine qD ?_
  refine WL.ac rfl rfl rfl (Ac.call rfl Tryd.func79 nm79 rfl (refOf_ok w2 2 _ _ [] (by decide) (Rd.nil _ _) (hR.keep0 M2.keep) (by simp) (by decide) (by decide))) ?_; rintro v3 w3 ⟨rfl, K3⟩
  rw [show dOf 2 [] = emptyH 0 from rfl]
  have M3 := M2.step K3
  refine WL.ex rfl rfl rfl (Ex.iaA Tryd.underlying98 sz31 rfl rfl ⟨by omega, by omega⟩) ?_
  refine WL.ac0 rfl rfl (Ac.stA M3 ty31 rfl rfl rfl (h32_len (emptyH_len 0)) (bytesV_one _) (i := 0) rfl (by rw [h32_len (emptyH_len 0), emp_len (empTo_ok 0)]; first | decide | (simp only [Int.toNat_natCast]; omega))) ?_; rintro v5 w5 ⟨K5, M5⟩
  try dsimp only [List.set] at M5
  replace M5 := M5.eqv (i := 0) rfl (r' := blk ge (empC (empTo (0 + 1))) 98) (congrArg (fun x => blk ge x 98) ((flat_set (k := 32) (i := 0) (empTo_l _) (h32_len (emptyH_len 0)) (by rw [(empTo_ok _).len]; omega) (by simp only [Nat.zero_add, Int.toNat_natCast]; try rfl)).trans (congrArg empC (empTo_set (by omega)))))
  try dsimp only [List.set] at M5
  refine qE ?_
  refine WC.seq ?_
  refine qD ?_
  refine qB ?_
  refine qE ?_
  refine WC.block ?_
  refine WC.loop (σ := Nat) (fun i => [(0, .pointer (some ⟨g1, 0, none⟩)), (1, .pointer (some ⟨ge, 0, none⟩)), (2, .int .i64 ((i + 1 : Nat) : Int))]) (fun i wr => i + 1 ≤ 33 ∧ Mem w wr nof [blk ge (empC (empTo (i + 1))) 98, blk g1 (empC emp0) 98]) (fun i => 33 - i) (0) ?_ (.cons rfl (.cons rfl (.cons rfl (.nil)))) ?_
  · exact ⟨by decide, M5⟩
  rintro i w7 ⟨hi, M7⟩
  refine WC.seq ?_
  refine qD ?_
  refine qA ?_
  refine WL.ex rfl rfl rfl (Ex.leq rfl rfl) ?_
  refine qE ?_
  refine WC.cond_dec rfl (fun hin => ?_) (fun hin => ?_)
  · have hi32 : i + 1 < 33 := by omega
    have hg0 := empTo_get (k := i + 1) (i := i) (by omega) (by omega)
    refine WC.skip ?_
    refine WX.next ?_
    refine WC.seq ?_
    refine WC.block ?_
    refine WC.draw (Keep nof w7.drew) [9, 11] (.one 0 0 (.one 1 0 (.one 2 0 (.one 3 0 (.one 5 0 (.one 6 0 (.one 7 0 (.one 4 1 (.one 8 1 (.one 9 2 (.one 10 0 (.one 11 2 .nil)))))))))))) mixed (by kernel_rfl) (by kernel_rfl) (by kernel_rfl) (HQ.block (HQ.then_ (HQ.then_ (HQ.block (HQ.then_ HQ.body))))) ?_
    obtain ⟨w10, hw10⟩ : ∃ v, v = w7.drew := ⟨_, rfl⟩
    have D10 : Keep nof w7 w10 := by rw [hw10]; exact Keep.drew _ _
    have M10 := M7.step D10
    rw [← hw10]; clear hw10
    refine qC ?_
    refine qC ?_
    refine WP.p rfl rfl rfl rfl (fun _ => Ex.sub rfl rfl (c := ((i : Nat) : Int)) (by rw [i64w _ (by omega) (by omega)]; omega)) ?_
    refine WP.p rfl rfl rfl rfl (fun _ => Ex.iaA Tryd.underlying98 sz31 rfl rfl ⟨by omega, by omega⟩) ?_
    refine qC ?_
    refine WP.p rfl rfl rfl rfl (fun _ => Ex.sub rfl rfl (c := ((i : Nat) : Int)) (by rw [i64w _ (by omega) (by omega)]; omega)) ?_
    refine WP.p rfl rfl rfl rfl (fun _ => Ex.iaA Tryd.underlying98 sz31 rfl rfl ⟨by omega, by omega⟩) ?_
    refine WP.q (Keep.refl _ _) rfl rfl rfl rfl (fun w' hS => Ex.loadA ty31 rfl (h32_len (emptyH_len i)) ((M10.rdt (m := 32) (i := 0) rfl (flat_at (i := i) (empTo_l _) hg0 (by simp only [Nat.zero_add, Int.toNat_natCast]))).keep0 hS)) ?_
    refine WP.q (Keep.refl _ _) rfl rfl rfl rfl (fun w' hS => Ex.loadA ty31 rfl (h32_len (emptyH_len i)) ((M10.rdt (m := 32) (i := 0) rfl (flat_at (i := i) (empTo_l _) hg0 (by simp only [Nat.zero_add, Int.toNat_natCast]))).keep0 hS)) ?_
    refine WP.a rfl rfl rfl rfl (Ac.call rfl Tryd.func76 nm76 rfl (refNode_ok w10 _ _ (emptyH_len i) (emptyH_len i) (hR.keep0 M10.keep))) ?_; rintro v20 w20 ⟨rfl, K20⟩; refine .inl ⟨rfl, Keep nof w20, ?_⟩
    rw [show dNode (emptyH i) (emptyH i) = emptyH (i + 1) from rfl]
    have M20 := M10.step K20
    refine WP.p rfl rfl rfl rfl (fun _ => Ex.iaA Tryd.underlying98 sz31 rfl rfl ⟨by omega, by omega⟩) ?_
    refine WP.a0 rfl rfl rfl (Ac.stA M20 ty31 rfl rfl rfl (h32_len (emptyH_len (i + 1))) (bytesV_one _) (i := 0) rfl (by rw [h32_len (emptyH_len (i + 1)), emp_len (empTo_ok (i + 1))]; first | decide | (simp only [Int.toNat_natCast]; omega))) ?_; rintro v22 w22 ⟨K22, M22⟩; refine .inl ⟨rfl, Keep nof w22, ?_⟩
    try dsimp only [List.set] at M22
    replace M22 := M22.eqv (i := 0) rfl (r' := blk ge (empC (empTo ((i + 1) + 1))) 98) (congrArg (fun x => blk ge x 98) ((flat_set (k := 32) (i := (i + 1)) (empTo_l _) (h32_len (emptyH_len (i + 1))) (by rw [(empTo_ok _).len]; omega) (by simp only [Nat.zero_add, Int.toNat_natCast]; try rfl)).trans (congrArg empC (empTo_set (by omega)))))
    try dsimp only [List.set] at M22
    refine WP.nil ?_
    refine WX.normal_block (WX.next (?_))
    refine WC.region ?_
    refine qA ?_
    refine WL.ex rfl rfl rfl (Ex.add rfl rfl (i64w _ (by omega) (by omega))) ?_
    refine qB ?_
    refine WL.nil ?_
    refine WX.again (i + 1) ?_ ?_ (.cons rfl (.cons rfl (.cons rfl (.nil))))
    · (try dsimp only); omega
    · exact ⟨by omega, M22⟩
  · obtain rfl : i = 32 := by omega
    refine WC.exit ?_
    refine WX.exit_then (WX.exit_then (WX.exit_block (WX.next (?_))))
    refine qD ?_
    refine WL.ex rfl rfl rfl (Ex.loadA ty98 rfl (emp_len he33) (M7.rdw (i := 0) rfl)) ?_
    refine WL.ac0 rfl rfl (Ac.stA M7 ty98 rfl rfl rfl (emp_len he33) emp_one (i := 1) rfl (by rw [emp_len he33, emp_len emp0_ok]; decide)) ?_; rintro v27 w27 ⟨K27, M27⟩
    try dsimp only [List.set] at M27
    rw [splice_all _ _ (by rw [emp_len he33, emp_len emp0_ok])] at M27
    refine qE ?_
    refine WC.ret ?_
    refine WX.retc rfl rfl (run_loadVarA ty98 (by exact emp_len he33) (M27.rdw (i := 1) rfl)) ?_
    exact ⟨rfl, M27.keep⟩

/- sponsion/sponsionref04.Int -/
theorem int4_ok (w : World) (a : List Nat) (ha : Int4 a) :
    Gives Tryd.prog 97 #[.agg (intV a).toArray] w fun u w1 => u = str (intB a) ∧ Keep nof w w1 := by
  have M0 := Mem.start w nof
  obtain ⟨hl4, hb4⟩ := ha
  refine Gives.enter (n := 18) Tryd.func97 rfl Tryd.ntmps97 rfl (env := [(0, .agg (intV a).toArray)]) rfl ?_
  refine qD ?_
  refine WL.ac rfl rfl rfl (Ac.box M0 rfl rfl) ?_; rintro v1 w1 ⟨g1, rfl, hg1, K1, M1⟩
  refine qB ?_
  refine qE ?_
  refine WC.seq ?_
  refine WC.draw (Keep nof w1.drew) [] (.one 0 0 (.one 3 0 (.one 7 0 (.one 11 0 (.one 1 1 (.one 4 1 (.one 8 1 (.one 12 1 (.one 2 2 (.one 5 2 (.one 6 0 (.one 9 2 (.one 10 0 (.one 13 2 (.one 14 0 (.one 15 0 .nil)))))))))))))))) mixed (by kernel_rfl) (by kernel_rfl) (by kernel_rfl) (HQ.then_ HQ.body) ?_
  obtain ⟨w3, hw3⟩ : ∃ v, v = w1.drew := ⟨_, rfl⟩
  have D3 : Keep nof w1 w3 := by rw [hw3]; exact Keep.drew _ _
  have M3 := M1.step D3
  rw [← hw3]; clear hw3
  refine WP.p rfl rfl rfl rfl (fun _ => Ex.iaA Tryd.underlying48 sz23 rfl rfl ⟨by omega, by omega⟩) ?_
  refine WP.p rfl rfl rfl rfl (fun _ => Ex.iaA Tryd.underlying48 sz23 rfl rfl ⟨by omega, by omega⟩) ?_
  refine WP.p rfl rfl rfl rfl (fun _ => Ex.iaA Tryd.underlying48 sz23 rfl rfl ⟨by omega, by omega⟩) ?_
  refine WP.p rfl rfl rfl rfl (fun _ => Ex.iaA Tryd.underlying48 sz23 rfl rfl ⟨by omega, by omega⟩) ?_
  refine WP.q (Keep.refl _ _) rfl rfl rfl rfl (fun w' hS => Ex.load ty23 rfl (v := .int .u64 ((a.getD 3 0 : Nat) : Int)) (hS.cell (M3.cell (i := 0) rfl (intV_get (by omega))) (fun f => f))) ?_
  refine WP.q (Keep.refl _ _) rfl rfl rfl rfl (fun w' hS => Ex.load ty23 rfl (v := .int .u64 ((a.getD 2 0 : Nat) : Int)) (hS.cell (M3.cell (i := 0) rfl (intV_get (by omega))) (fun f => f))) ?_
  refine WP.q (Keep.refl _ _) rfl rfl rfl rfl (fun w' hS => Ex.load ty23 rfl (v := .int .u64 ((a.getD 1 0 : Nat) : Int)) (hS.cell (M3.cell (i := 0) rfl (intV_get (by omega))) (fun f => f))) ?_
  refine WP.q (Keep.refl _ _) rfl rfl rfl rfl (fun w' hS => Ex.load ty23 rfl (v := .int .u64 ((a.getD 0 0 : Nat) : Int)) (hS.cell (M3.cell (i := 0) rfl (intV_get (by omega))) (fun f => f))) ?_
  refine WP.as rfl rfl rfl rfl (Ac.call rfl Tryd.func96 nm96 rfl (num4_ok w3 _ 8 (hb4 3) (by omega))) ?_; rintro v12 w12 ⟨rfl, K12⟩
  refine ⟨Keep nof w12, fun u h => K12.trans h, Keep.refl _ _, ?_⟩
  have M12 := M3.step K12
  refine WP.as rfl rfl rfl rfl (Ac.call rfl Tryd.func96 nm96 rfl (num4_ok w12 _ 8 (hb4 2) (by omega))) ?_; rintro v13 w13 ⟨rfl, K13⟩
  refine ⟨Keep nof w13, fun u h => K13.trans h, Keep.refl _ _, ?_⟩
  have M13 := M12.step K13
  refine WP.p rfl rfl rfl rfl (fun _ => Ex.addS rfl rfl (by first | (simp; done) | (simp; omega) | omega)) ?_
  refine WP.as rfl rfl rfl rfl (Ac.call rfl Tryd.func96 nm96 rfl (num4_ok w13 _ 8 (hb4 1) (by omega))) ?_; rintro v15 w15 ⟨rfl, K15⟩
  refine ⟨Keep nof w15, fun u h => K15.trans h, Keep.refl _ _, ?_⟩
  have M15 := M13.step K15
  refine WP.p rfl rfl rfl rfl (fun _ => Ex.addS rfl rfl (by first | (simp; done) | (simp; omega) | omega)) ?_
  refine WP.as rfl rfl rfl rfl (Ac.call rfl Tryd.func96 nm96 rfl (num4_ok w15 _ 8 (hb4 0) (by omega))) ?_; rintro v17 w17 ⟨rfl, K17⟩
  refine ⟨Keep nof w17, fun u h => K17.trans h, Keep.refl _ _, ?_⟩
  have M17 := M15.step K17
  refine WP.p rfl rfl rfl rfl (fun _ => Ex.addS rfl rfl (by first | (simp; done) | (simp; omega) | omega)) ?_
  refine WP.p rfl rfl rfl rfl (fun _ => Ex.asg rfl) ?_
  refine WP.nil ?_
  refine WX.next ?_
  refine WC.ret ?_
  refine WX.ret1 rfl rfl ?_
  exact ⟨congrArg str (intB_be a hl4).symm, M17.keep⟩

end Go.Proofs.YtchmjpdkonfifaaDoor

set_option linter.unusedVariables false
set_option linter.unusedSimpArgs false
namespace Go.Proofs.YtchmjpdkonfifaaDoor
open Go.Sx Go.RowKit
attribute [local irreducible] Ac Ex WL WC WX WP Gives sha

abbrev e0 : List UInt8 := dOf 2 []
theorem emptyH_emp : ∀ n, emptyH n = emp dNode e0 n
  | 0 => rfl
  | n + 1 => by rw [emptyH, emp, emptyH_emp n]
/-- The sums of the empty trees, where a tree keeps them. -/
def ES (w : World) (ge d : Nat) : Prop := Rd w (some ⟨ge, 0, none⟩) (fl (emps dNode e0 (d + 1)))
theorem ES.keep {w w' : World} {ge d : Nat} (h : ES w ge d) (k : Keep nof w w') : ES w' ge d := Rd.keep0 h k
def tC (gl ge d : Nat) : List Value := [.slice (some ⟨gl, 0, none⟩) (d + 1) (d + 1), .slice (some ⟨ge, 0, none⟩) (d + 1) (d + 1)]
/-- A tree behind a pointer. -/
structure TreeS (w : World) (g gl ge d : Nat) (vs : List Value) (lv : List Hs) : Prop where
  hd : (blk g (tC gl ge d) 130).sat w
  lvs : (blk gl vs 39).sat w
  lev : LevS w vs lv 31
  len : lv.length = d + 1
def treeR (g gl ge d : Nat) (vs : List Value) (lv : List Hs) : Res := sep (sep (blk g (tC gl ge d) 130) (blk gl vs 39)) (levR vs lv 31)
theorem TreeS.of {w : World} {g gl ge d : Nat} {vs : List Value} {lv : List Hs} (h : (treeR g gl ge d vs lv).sat w) (hl : lv.length = d + 1) : TreeS w g gl ge d vs lv := ⟨h.1.1, h.1.2.1, h.2.1, hl⟩
theorem TreeS.keep {w w' : World} {g gl ge d : Nat} {vs : List Value} {lv : List Hs} (h : TreeS w g gl ge d vs lv) (k : Keep nof w w') : TreeS w' g gl ge d vs lv :=
  ⟨Res.keep0 h.hd k, Res.keep0 h.lvs k, Res.keep0 (r := levR vs lv _) h.lev k, h.len⟩
theorem TreeS.c0 {w : World} {g gl ge d : Nat} {vs : List Value} {lv : List Hs} (h : TreeS w g gl ge d vs lv) : w.cell? ⟨g, 0, none⟩ = some (.slice (some ⟨gl, 0, none⟩) (d + 1) (d + 1)) := blk_cell h.hd rfl
theorem TreeS.c1 {w : World} {g gl ge d : Nat} {vs : List Value} {lv : List Hs} (h : TreeS w g gl ge d vs lv) : w.cell? ⟨g, 1, none⟩ = some (.slice (some ⟨ge, 0, none⟩) (d + 1) (d + 1)) := blk_cell h.hd rfl
theorem TreeS.ck {w : World} {g gl ge d : Nat} {vs : List Value} {lv : List Hs} (h : TreeS w g gl ge d vs lv) {k o : Nat} {v : Value} (hv : vs[k]? = some v) (ho : o = k) : w.cell? ⟨gl, o, none⟩ = some v := by subst ho; exact blk_cell h.lvs hv
theorem LevS.at {w : World} {vs : List Value} {lv : List Hs} {e : TypeId} (h : LevS w vs lv e) {k : Nat} {l : Hs} (hl : lv[k]? = some l) : ∃ A c, vs[k]? = some (.slice A l.length c) ∧ Rd w A (fl l) ∧ l.length ≤ c ∧ c ≤ maxLen := by
  have hk : k < vs.length := by rw [h.len]; exact (List.getElem?_eq_some_iff.1 hl).1
  have hv := List.getElem?_eq_getElem hk
  have hr := h.row k _ l hv hl
  obtain ⟨A, c, e1⟩ := own_slice hr
  rw [e1] at hr hv
  refine ⟨A, c, hv, rd_of_own hr, ?_⟩
  rcases hr.2 with ⟨h1, h2⟩ | ⟨g, cap, cur, h1, _, _, h2, h3, _⟩
  · simp only [Value.slice.injEq] at h1
    rw [h1.2.1, h1.2.2]
    exact ⟨Nat.le_refl _, Nat.zero_le _⟩
  · simp only [Value.slice.injEq] at h1
    rw [h1.2.2]
    exact ⟨h2, h3⟩
theorem TreeS.at {w : World} {g gl ge d : Nat} {vs : List Value} {lv : List Hs} (h : TreeS w g gl ge d vs lv) {k : Nat} {l : Hs} (hl : lv[k]? = some l) : ∃ A c, vs[k]? = some (.slice A l.length c) ∧ Rd w A (fl l) ∧ l.length ≤ c ∧ c ≤ maxLen := LevS.at h.lev hl
theorem TreeS.at' {w : World} {g gl ge d : Nat} {vs : List Value} {lv : List Hs} (h : TreeS w g gl ge d vs lv) {k : Nat} {l : Hs} (hl : lv[k]? = some l) (h32 : ∀ a ∈ l, H32 a) (hn : 0 < l.length) : ∃ b o c, vs[k]? = some (.slice (some ⟨b, o, none⟩) l.length c) ∧ Rd w (some ⟨b, o, none⟩) (fl l) ∧ l.length ≤ c ∧ c ≤ maxLen := by
  obtain ⟨A, c, h1, h2, h3, h4⟩ := h.at hl
  obtain ⟨b, o, rfl, _⟩ := h2.plain (by rw [fl_len h32]; omega)
  exact ⟨b, o, c, h1, h2, h3, h4⟩
theorem fl_at {w : World} {b o i q : Nat} {l : Hs} {a : List UInt8} (h : Rd w (some ⟨b, o, none⟩) (fl l)) (h32 : ∀ a ∈ l, H32 a) (ha : l[i]? = some a) (hq : q = o + i * 32) : Rd w (some ⟨b, q, none⟩) (bytesV a) := by
  subst hq
  exact Rd.flat h (fun a ha => by simpa using h32 a ha) ha
theorem nd32 {ls : Hs} (h : ∀ a ∈ ls, H32 a) (k p : Nat) : H32 (nd dNode e0 ls k p) := nd_all (Q := H32) (fun a b => dNode_len a b) (dOf_len 2 []) h k p
theorem emp32 (k : Nat) : H32 (emp dNode e0 k) := emp_all (Q := H32) (fun a b => dNode_len a b) (dOf_len 2 []) k
theorem lev32 {ls : Hs} (h : ∀ a ∈ ls, H32 a) (k : Nat) : ∀ a ∈ levOf dNode e0 ls k, H32 a := by
  intro a ha
  obtain ⟨p, _, rfl⟩ := List.mem_map.1 ha
  exact nd32 h k p
theorem emps32 (m : Nat) : ∀ a ∈ emps dNode e0 m, H32 a := by
  intro a ha
  obtain ⟨p, _, rfl⟩ := List.mem_map.1 ha
  exact emp32 p
theorem take32 {ls : Hs} (h : ∀ a ∈ ls, H32 a) (n : Nat) : ∀ a ∈ ls.take n, H32 a := fun a ha => h a (List.mem_of_mem_take ha)

/- (*sponsion/tree.Tree).Len -/
theorem tLen_ok (w : World) (g gl ge d : Nat) (vs : List Value) (lv : List Hs) (l : Hs) (hTr : TreeS w g gl ge d vs lv) (hl : lv[0]? = some l) :
    Gives Tryd.prog 59 #[.pointer (some ⟨g, 0, none⟩)] w fun u w1 => u = .int .u64 (l.length : Int) ∧ Keep nof w w1 := by
  have M0 := Mem.start w nof
  obtain ⟨A, c, hv, hrd, hlc, hcm⟩ := hTr.at hl
  unfold maxLen at hcm
  refine Gives.enter (n := 13) Tryd.func59 rfl Tryd.ntmps59 rfl (env := [(0, .pointer (some ⟨g, 0, none⟩))]) rfl ?_
  refine qD ?_
  refine qB ?_
  refine qE ?_
  refine WC.seq ?_
  refine qD ?_
  refine qA ?_
  refine WL.ex rfl rfl rfl (Ex.eqPn Tryd.underlying68 rfl) ?_
  refine qE ?_
  refine WC.no rfl ?_
  refine WC.skip ?_
  refine WX.next ?_
  refine qD ?_
  refine qA ?_
  refine WL.ex rfl rfl rfl (Ex.nilc rfl) ?_
  refine WL.ex rfl rfl rfl (Ex.fa fl130_0 rfl) ?_
  refine WL.ex rfl rfl rfl (Ex.load ty128 rfl (hTr.keep M0.keep).c0) ?_
  refine WL.ex rfl rfl rfl (Ex.ia Tryd.underlying128 sz39 rfl rfl ⟨by omega, by omega⟩) ?_
  refine WL.ex rfl rfl rfl (Ex.load ty39 rfl ((hTr.keep M0.keep).ck hv (by simp))) ?_
  refine WL.ex rfl rfl rfl (Ex.len Tryd.underlying39 rfl) ?_
  refine WL.ex rfl rfl rfl (Ex.cvI Tryd.underlying3 Tryd.underlying23 rfl (u64w_lt _ (by omega))) ?_
  refine qB ?_
  refine qE ?_
  refine WC.ret ?_
  refine WX.ret1 rfl rfl ?_
  exact ⟨rfl, M0.keep⟩

/- (*sponsion/tree.Tree).Depth -/
theorem tDepth_ok (w : World) (g gl ge d : Nat) (vs : List Value) (lv : List Hs) (hTr : TreeS w g gl ge d vs lv) (hd : d ≤ 32) :
    Gives Tryd.prog 64 #[.pointer (some ⟨g, 0, none⟩)] w fun u w1 => u = .int .i64 (d : Int) ∧ Keep nof w w1 := by
  have M0 := Mem.start w nof
  refine Gives.enter (n := 11) Tryd.func64 rfl Tryd.ntmps64 rfl (env := [(0, .pointer (some ⟨g, 0, none⟩))]) rfl ?_
  refine qD ?_
  refine qB ?_
  refine qE ?_
  refine WC.seq ?_
  refine qD ?_
  refine qA ?_
  refine WL.ex rfl rfl rfl (Ex.eqPn Tryd.underlying68 rfl) ?_
  refine qE ?_
  refine WC.no rfl ?_
  refine WC.skip ?_
  refine WX.next ?_
  refine qD ?_
  refine qA ?_
  refine WL.ex rfl rfl rfl (Ex.nilc rfl) ?_
  refine WL.ex rfl rfl rfl (Ex.fa fl130_0 rfl) ?_
  refine WL.ex rfl rfl rfl (Ex.load ty128 rfl (hTr.keep M0.keep).c0) ?_
  refine WL.ex rfl rfl rfl (Ex.len Tryd.underlying128 rfl) ?_
  refine WL.ex rfl rfl rfl (Ex.sub rfl rfl (c := (d : Int)) (by rw [i64w _ (by omega) (by omega)]; omega)) ?_
  refine qB ?_
  refine qE ?_
  refine WC.ret ?_
  refine WX.ret1 rfl rfl ?_
  exact ⟨rfl, M0.keep⟩

theorem tmodT (x n : Nat) : (x : Int).tmod (n : Int) = ((x % n : Nat) : Int) := (Int.ofNat_tmod x n).symm
theorem u64sub {a b : Nat} (h : b ≤ a) (ha : a < 18446744073709551616) : IntKind.u64.wrap ((a : Int) - (b : Int)) = ((a - b : Nat) : Int) := by
  rw [show ((a : Int) - (b : Int)) = ((a - b : Nat) : Int) by omega]
  exact u64w_lt _ (by omega)
/-- What a tree answers to a question for a node. -/
def tNode (d : Nat) (ls : Hs) (n : Nat) (z : Int) (p : Nat) : List UInt8 × Bool :=
  if n ≤ ls.length ∧ 0 ≤ z ∧ z ≤ (d : Int) ∧ p / 2 ^ (d - z.toNat) = 0 then (nd dNode e0 (ls.take n) z.toNat p, true) else (List.replicate 32 0, false)
theorem tNode_no {d : Nat} {ls : Hs} {n : Nat} {z : Int} {p : Nat} (h : ¬ (n ≤ ls.length ∧ 0 ≤ z ∧ z ≤ (d : Int) ∧ p / 2 ^ (d - z.toNat) = 0)) : tNode d ls n z p = (List.replicate 32 0, false) := if_neg h
theorem tNode_yes {d : Nat} {ls : Hs} {n k p : Nat} {a : List UInt8} (h1 : n ≤ ls.length) (h2 : k ≤ d) (h3 : p / 2 ^ (d - k) = 0) (ha : nd dNode e0 (ls.take n) k p = a) : tNode d ls n (k : Int) p = (a, true) := by
  rw [tNode, if_pos ⟨h1, by omega, by omega, by simpa using h3⟩, ← ha]
  rfl
theorem tNode_32 {d : Nat} {ls : Hs} (h : ∀ a ∈ ls, H32 a) (n : Nat) (z : Int) (p : Nat) : H32 (tNode d ls n z p).1 := by
  unfold tNode
  split
  · exact nd32 (take32 h n) _ _
  · exact h32_0

/- (*sponsion/tree.Tree).edge -/
theorem tEdge_ok (w : World) (g gl ge d : Nat) (vs : List Value) (ls : Hs) (n lev : Nat) (hTr : TreeS w g gl ge d vs (lvOf dNode e0 d ls)) (hE : ES w ge d) (hls : ∀ a ∈ ls, H32 a) (hn : n ≤ ls.length) (hlev : lev ≤ d) (hd : d ≤ 32) (hT : Tabs w) :
    Gives Tryd.prog 77 #[.pointer (some ⟨g, 0, none⟩), .int .u64 (n : Int), .int .i64 (lev : Int)] w fun u w1 => u = .agg (bytesV (nd dNode e0 (ls.take n) lev (n / 2 ^ lev))).toArray ∧ Keep nof w w1 := by
  have M0 := Mem.start w nof
  have he32 := emp32 0
  have hn64 : n < 18446744073709551616 := by
    obtain ⟨A, c, _, _, h1, h2⟩ := hTr.at (lvOf_get (j := 0) (by omega))
    rw [levOf_zero] at h1
    unfold maxLen at h2
    omega
  have ht32 := take32 hls n
  have hr32 := nd32 ht32 lev (n / 2 ^ lev)
  refine Gives.enter (n := 50) Tryd.func77 rfl Tryd.ntmps77 rfl (env := [(0, .pointer (some ⟨g, 0, none⟩)), (1, .int .u64 (n : Int)), (2, .int .i64 (lev : Int))]) rfl ?_
  refine qD ?_
  refine WL.ac rfl rfl rfl (Ac.alloc M0 (l := bytesV (List.replicate 32 0)) (by kernel_rfl)) ?_; rintro v1 w1 ⟨go, rfl, hg1, K1, M1⟩
  refine qE ?_
  refine qD ?_
  refine qA ?_
  refine WL.ex rfl rfl rfl (Ex.nilc rfl) ?_
  refine WL.ex rfl rfl rfl (Ex.fa fl130_1 rfl) ?_
  refine WL.ex rfl rfl rfl (Ex.load ty39 rfl (hTr.keep M1.keep).c1) ?_
  refine WL.ex rfl rfl rfl (Ex.ia Tryd.underlying39 sz31 rfl rfl ⟨by omega, by omega⟩) ?_
  refine WL.ex rfl rfl rfl (Ex.loadA ty31 rfl (l := bytesV (emp dNode e0 0)) (by simpa using he32) (fl_at (hE.keep M1.keep) (emps32 _) (emps_get (k := 0) (by omega)) (by simp))) ?_
  refine WL.ac rfl rfl rfl (Ac.alloc M1 (l := bytesV (List.replicate 32 0)) (by kernel_rfl)) ?_; rintro v8 w8 ⟨gh, rfl, hg8, K8, M8⟩
  refine WL.ac0 rfl rfl (Ac.stA M8 ty31 rfl rfl rfl (h32_len (by first | assumption | exact h32_0)) (bytesV_one _) (i := 0) rfl (by first | (rw [h32_len (by first | assumption | exact h32_0), h32_len (by first | assumption | exact h32_0)]; decide) | (rw [h32_len (by first | assumption | exact h32_0)]; decide) | rw [h32_len (by first | assumption | exact h32_0)])) ?_; rintro v9 w9 ⟨K9, M9⟩
  try dsimp only [List.set] at M9
  rw [splice_all _ _ (by first | rw [h32_len (by first | assumption | exact h32_0), h32_len (by first | assumption | exact h32_0)] | rw [h32_len (by first | assumption | exact h32_0)])] at M9
  refine qE ?_
  refine WC.seq ?_
  refine qD ?_
  refine qA ?_
  refine qA ?_
  refine qE ?_
  refine WC.block ?_
  refine WC.loop (σ := Nat) (fun i => [(0, .pointer (some ⟨g, 0, none⟩)), (1, .int .u64 (n : Int)), (6, .pointer (some ⟨go, 0, none⟩)), (7, .pointer (some ⟨gh, 0, none⟩)), (16, .int .i64 (lev : Int)), (17, .int .i64 (i : Int))]) (fun i wr => i ≤ lev ∧ Mem w wr nof [blk gh (bytesV (nd dNode e0 (ls.take n) i (n / 2 ^ i))) 31, blk go (bytesV (List.replicate 32 0)) 31]) (fun i => lev - i) (0) ?_ (.cons rfl (.cons rfl (.cons rfl (.cons rfl (.cons rfl (.cons rfl (.nil))))))) ?_
  · refine ⟨by omega, ?_⟩
    rw [nd_emp 0 (n / 2 ^ 0) (by simp; omega)]
    exact M9
  rintro i w12 ⟨hi, M12⟩
  refine qD ?_
  refine WL.ex rfl rfl rfl (Ex.lss rfl rfl) ?_
  refine qE ?_
  refine WC.seq ?_
  refine WC.cond_dec rfl (fun hc18 => ?_) (fun hc18 => ?_)
  · have hdn := Nat.div_le_self n (2 ^ i)
    have hdl := Nat.div_le_div_right (c := 2 ^ i) hn
    have hmul := Nat.div_mul_le_self n (2 ^ i)
    have hcur := nd32 ht32 i (n / 2 ^ i)
    have hod := nd_odd (N := dNode) (e := e0) (ls := ls.take n) (k := i) (n := n)
    have hev := nd_even (N := dNode) (e := e0) (ls := ls.take n) (k := i) (n := n) (by simp; omega)
    obtain ⟨p, hp⟩ : ∃ p, p = n / 2 ^ i := ⟨_, rfl⟩
    obtain ⟨q, hq⟩ : ∃ q, q = ls.length / 2 ^ i := ⟨_, rfl⟩
    have hll : (levOf dNode e0 ls i).length = q := by rw [levOf_len, hq]
    rw [← hp] at M12 hdn hdl hmul hcur hod hev
    rw [← hq] at hdl
    refine WC.skip ?_
    refine WX.next ?_
    refine WC.seq ?_
    refine WC.block ?_
    refine qD ?_
    refine qA ?_
    refine qB ?_
    refine qE ?_
    refine qD ?_
    refine qA ?_
    refine qA ?_
    refine WL.ex rfl rfl rfl (Ex.shr rfl rfl (m := i) rfl (c := ((p : Nat) : Int)) (by rw [hp]; exact shrN _ _ _ (by simp [IntKind.bits]; omega))) ?_
    refine qB ?_
    refine qE ?_
    refine qD ?_
    refine qA ?_
    refine WL.ex rfl rfl rfl (Ex.rem rfl rfl (by decide) (c := ((p % 2 : Nat) : Int)) (tmodT _ 2)) ?_
    refine WL.ex rfl rfl rfl (Ex.eqI rfl rfl) ?_
    refine qE ?_
    refine WC.cond_dec rfl (fun h25 => ?_) (fun h25 => ?_)
    · have ho : p % 2 = 1 := by omega
      obtain ⟨bk, ok_, ck, hvk, hrk, _⟩ := hTr.at' (lvOf_get (j := i) (by omega)) (lev32 hls i) (by omega)
      have hx32 := nd32 hls i (p - 1)
      have hsum := hod ho
      rw [nd_take (p := p - 1) (by rw [Nat.sub_add_cancel (by omega)]; exact hmul)] at hsum
      have hs32 := dNode_len (nd dNode e0 ls i (p - 1)) (nd dNode e0 (ls.take n) i p)
      refine WC.draw (Keep nof w12.drew) [13] (.one 0 0 (.one 1 0 (.one 2 0 (.one 4 0 (.one 7 0 (.one 8 0 (.one 3 1 (.one 5 0 (.one 6 1 (.one 9 0 (.one 10 1 (.one 11 1 (.one 12 2 (.one 13 2 .nil)))))))))))))) mixed (by kernel_rfl) (by kernel_rfl) (by kernel_rfl) (HQ.block (HQ.then_ (HQ.then_ (HQ.block (HQ.then_ HQ.body))))) ?_
      obtain ⟨w23, hw23⟩ : ∃ v, v = w12.drew := ⟨_, rfl⟩
      have D23 : Keep nof w12 w23 := by rw [hw23]; exact Keep.drew _ _
      have M23 := M12.step D23
      rw [← hw23]; clear hw23
      refine qC ?_
      refine WP.p rfl rfl rfl rfl (fun _ => Ex.nilc rfl) ?_
      refine WP.p rfl rfl rfl rfl (fun _ => Ex.fa fl130_0 rfl) ?_
      refine qC ?_
      refine qC ?_
      refine WP.p rfl rfl rfl rfl (fun _ => Ex.sub rfl rfl (c := ((p - 1 : Nat) : Int)) (u64sub (b := 1) (by omega) (by omega))) ?_
      refine WP.q (Keep.refl _ _) rfl rfl rfl rfl (fun w' hS => Ex.load ty128 rfl (hTr.keep (M23.keep.trans hS)).c0) ?_
      refine WP.p rfl rfl rfl rfl (fun _ => Ex.ia Tryd.underlying128 sz39 rfl rfl ⟨by omega, by omega⟩) ?_
      refine WP.q (Keep.refl _ _) rfl rfl rfl rfl (fun w' hS => Ex.load ty39 rfl ((hTr.keep (M23.keep.trans hS)).ck hvk (by simp))) ?_
      refine WP.p rfl rfl rfl rfl (fun _ => Ex.ia Tryd.underlying39 sz31 rfl rfl ⟨by omega, by omega⟩) ?_
      refine WP.q (Keep.refl _ _) rfl rfl rfl rfl (fun w' hS => Ex.loadA ty31 rfl (l := bytesV (nd dNode e0 ls i (p - 1))) (by simpa using hx32) (fl_at (hrk.keep0 (M23.keep.trans hS)) (lev32 hls i) (levOf_get (p := p - 1) (by omega)) (by simp))) ?_
      refine WP.q (Keep.refl _ _) rfl rfl rfl rfl (fun w' hS => Ex.loadA ty31 rfl (h32_len (by first | assumption | exact h32_0)) ((M23.rdw (i := 0) rfl).keep0 hS)) ?_
      refine WP.as rfl rfl rfl rfl (Ac.call rfl Tryd.func74 nm74 rfl (node_ok w23 _ _ hx32 hcur (hT.keep M23.keep))) ?_; rintro v36 w36 ⟨rfl, K36⟩
      refine ⟨Keep nof w36, fun u h => K36.trans h, Keep.refl _ _, ?_⟩
      have M36 := M23.step K36
      refine WP.a0 rfl rfl rfl (Ac.stA M36 ty31 rfl rfl rfl (h32_len (by first | assumption | exact h32_0)) (bytesV_one _) (i := 0) rfl (by first | (rw [h32_len (by first | assumption | exact h32_0), h32_len (by first | assumption | exact h32_0)]; decide) | (rw [h32_len (by first | assumption | exact h32_0)]; decide) | rw [h32_len (by first | assumption | exact h32_0)])) ?_; rintro v37 w37 ⟨K37, M37⟩; refine .inl ⟨rfl, Keep nof w37, ?_⟩
      try dsimp only [List.set] at M37
      rw [splice_all _ _ (by first | rw [h32_len (by first | assumption | exact h32_0), h32_len (by first | assumption | exact h32_0)] | rw [h32_len (by first | assumption | exact h32_0)])] at M37
      refine WP.nil ?_
      refine WX.normal_block (WX.next (?_))
      refine WC.region ?_
      refine WL.ex rfl rfl rfl (Ex.add rfl rfl (i64w _ (by omega) (by omega))) ?_
      refine qA ?_
      refine WL.nil ?_
      refine WX.again (i + 1) ?_ ?_ (.cons rfl (.cons rfl (.cons rfl (.cons rfl (.cons rfl (.cons rfl (.nil)))))))
      · (try dsimp only); omega
      · refine ⟨by omega, ?_⟩
        rw [hsum]
        exact M37
    · have ho : p % 2 = 0 := by omega
      have hsum := hev ho
      have hx32 := emp32 i
      have hs32 := dNode_len (nd dNode e0 (ls.take n) i p) (emp dNode e0 i)
      refine WC.draw (Keep nof w12.drew) [9] (.one 1 0 (.one 2 0 (.one 3 0 (.one 5 0 (.one 0 1 (.one 4 1 (.one 6 0 (.one 7 1 (.one 8 2 (.one 9 2 .nil)))))))))) mixed (by kernel_rfl) (by kernel_rfl) (by kernel_rfl) (HQ.block (HQ.then_ (HQ.then_ (HQ.block (HQ.then_ HQ.body))))) ?_
      obtain ⟨w40, hw40⟩ : ∃ v, v = w12.drew := ⟨_, rfl⟩
      have D40 : Keep nof w12 w40 := by rw [hw40]; exact Keep.drew _ _
      have M40 := M12.step D40
      rw [← hw40]; clear hw40
      refine qC ?_
      refine WP.p rfl rfl rfl rfl (fun _ => Ex.nilc rfl) ?_
      refine WP.p rfl rfl rfl rfl (fun _ => Ex.fa fl130_1 rfl) ?_
      refine qC ?_
      refine WP.q (Keep.refl _ _) rfl rfl rfl rfl (fun w' hS => Ex.loadA ty31 rfl (h32_len (by first | assumption | exact h32_0)) ((M40.rdw (i := 0) rfl).keep0 hS)) ?_
      refine WP.q (Keep.refl _ _) rfl rfl rfl rfl (fun w' hS => Ex.load ty39 rfl (hTr.keep (M40.keep.trans hS)).c1) ?_
      refine WP.p rfl rfl rfl rfl (fun _ => Ex.ia Tryd.underlying39 sz31 rfl rfl ⟨by omega, by omega⟩) ?_
      refine WP.q (Keep.refl _ _) rfl rfl rfl rfl (fun w' hS => Ex.loadA ty31 rfl (l := bytesV (emp dNode e0 i)) (by simpa using hx32) (fl_at (hE.keep (M40.keep.trans hS)) (emps32 _) (emps_get (k := i) (by omega)) (by simp))) ?_
      refine WP.as rfl rfl rfl rfl (Ac.call rfl Tryd.func74 nm74 rfl (node_ok w40 _ _ hcur hx32 (hT.keep M40.keep))) ?_; rintro v49 w49 ⟨rfl, K49⟩
      refine ⟨Keep nof w49, fun u h => K49.trans h, Keep.refl _ _, ?_⟩
      have M49 := M40.step K49
      refine WP.a0 rfl rfl rfl (Ac.stA M49 ty31 rfl rfl rfl (h32_len (by first | assumption | exact h32_0)) (bytesV_one _) (i := 0) rfl (by first | (rw [h32_len (by first | assumption | exact h32_0), h32_len (by first | assumption | exact h32_0)]; decide) | (rw [h32_len (by first | assumption | exact h32_0)]; decide) | rw [h32_len (by first | assumption | exact h32_0)])) ?_; rintro v50 w50 ⟨K50, M50⟩; refine .inl ⟨rfl, Keep nof w50, ?_⟩
      try dsimp only [List.set] at M50
      rw [splice_all _ _ (by first | rw [h32_len (by first | assumption | exact h32_0), h32_len (by first | assumption | exact h32_0)] | rw [h32_len (by first | assumption | exact h32_0)])] at M50
      refine WP.nil ?_
      refine WX.normal_block (WX.next (?_))
      refine WC.region ?_
      refine WL.ex rfl rfl rfl (Ex.add rfl rfl (i64w _ (by omega) (by omega))) ?_
      refine qA ?_
      refine WL.nil ?_
      refine WX.again (i + 1) ?_ ?_ (.cons rfl (.cons rfl (.cons rfl (.cons rfl (.cons rfl (.cons rfl (.nil)))))))
      · (try dsimp only); omega
      · refine ⟨by omega, ?_⟩
        rw [hsum]
        exact M50
  · obtain rfl : i = lev := by omega
    refine WC.exit ?_
    refine WX.exit_then (WX.exit_then (WX.exit_block (WX.next (?_))))
    refine qD ?_
    refine WL.ex rfl rfl rfl (Ex.loadA ty31 rfl (h32_len (by first | assumption | exact h32_0)) (M12.rdw (i := 0) rfl)) ?_
    refine WL.ac0 rfl rfl (Ac.stA M12 ty31 rfl rfl rfl (h32_len (by first | assumption | exact h32_0)) (bytesV_one _) (i := 1) rfl (by first | (rw [h32_len (by first | assumption | exact h32_0), h32_len (by first | assumption | exact h32_0)]; decide) | (rw [h32_len (by first | assumption | exact h32_0)]; decide) | rw [h32_len (by first | assumption | exact h32_0)])) ?_; rintro v54 w54 ⟨K54, M54⟩
    try dsimp only [List.set] at M54
    rw [splice_all _ _ (by first | rw [h32_len (by first | assumption | exact h32_0), h32_len (by first | assumption | exact h32_0)] | rw [h32_len (by first | assumption | exact h32_0)])] at M54
    refine qE ?_
    refine WC.ret ?_
    refine WX.retc rfl rfl (run_loadVarA ty31 (h32_len (by first | assumption | exact h32_0)) (M54.rdw (i := 1) rfl)) ?_
    exact ⟨rfl, M54.keep⟩

end Go.Proofs.YtchmjpdkonfifaaDoor

set_option linter.unusedVariables false
set_option linter.unusedSimpArgs false
namespace Go.Proofs.YtchmjpdkonfifaaDoor
open Go.Sx Go.RowKit
attribute [local irreducible] Ac Ex WL WC WX WP Gives sha

/- (*sponsion/tree.Tree).Node -/
theorem tNode_ok (w : World) (g gl ge d : Nat) (vs : List Value) (ls : Hs) (n : Nat) (z : Int) (p : Nat) (hTr : TreeS w g gl ge d vs (lvOf dNode e0 d ls)) (hE : ES w ge d) (hls : ∀ a ∈ ls, H32 a) (hn : n < 18446744073709551616) (hz : -9223372036854775808 ≤ z ∧ z ≤ 9223372036854775807) (hp : p < 18446744073709551616) (hd : d ≤ 32) (hT : Tabs w) :
    Gives Tryd.prog 40 #[.pointer (some ⟨g, 0, none⟩), .int .u64 (n : Int), .int .i64 z, .int .u64 (p : Int)] w fun u w1 => u = .tuple #[.agg (bytesV (tNode d ls n z p).1).toArray, .bool (tNode d ls n z p).2] ∧ Keep nof w w1 := by
  have M0 := Mem.start w nof
  have hl0 := lvOf_get (N := dNode) (e := e0) (d := d) (ls := ls) (j := 0) (by omega)
  rw [levOf_zero] at hl0
  refine Gives.enter (n := 71) Tryd.func40 rfl Tryd.ntmps40 rfl (env := [(0, .pointer (some ⟨g, 0, none⟩)), (1, .int .u64 (n : Int)), (2, .int .i64 z), (3, .int .u64 (p : Int))]) rfl ?_
  refine qD ?_
  refine WL.ac rfl rfl rfl (Ac.alloc M0 (l := bytesV (List.replicate 32 0)) (by kernel_rfl)) ?_; rintro v1 w1 ⟨go, rfl, hg1, K1, M1⟩
  refine qB ?_
  refine qE ?_
  refine WC.seq ?_
  refine qD ?_
  refine qA ?_
  refine WL.ex rfl rfl rfl (Ex.eqPn Tryd.underlying68 rfl) ?_
  refine qA ?_
  refine WL.yes rfl rfl rfl rfl ?_
  refine qA ?_
  refine WL.yes rfl rfl rfl rfl ?_
  refine qA ?_
  refine WL.yes rfl rfl rfl rfl ?_
  refine WL.ac rfl rfl rfl (Ac.call rfl Tryd.func59 nm59 rfl (tLen_ok w1 g gl ge d vs _ ls (hTr.keep M1.keep) hl0)) ?_; rintro v8 w8 ⟨rfl, K8⟩
  have M8 := M1.step K8
  refine WL.yes rfl rfl rfl rfl ?_
  refine WL.ex rfl rfl rfl (Ex.gtr rfl rfl) ?_
  refine WL.ex rfl rfl rfl (Ex.pickF rfl rfl) ?_
  refine qA ?_
  by_cases h1 : (ls.length : Int) < n
  · rw [decide_eq_true h1]
    refine WL.no rfl rfl rfl rfl rfl rfl ?_
    refine WL.no rfl rfl rfl rfl rfl rfl ?_
    refine WL.ex rfl rfl rfl (Ex.pickT rfl rfl) ?_
    refine qA ?_
    refine WL.no rfl rfl rfl rfl rfl rfl ?_
    refine WL.no rfl rfl rfl rfl rfl rfl ?_
    refine WL.no rfl rfl rfl rfl rfl rfl ?_
    refine WL.no rfl rfl rfl rfl rfl rfl ?_
    refine WL.ex rfl rfl rfl (Ex.pickT rfl rfl) ?_
    refine qA ?_
    refine WL.no rfl rfl rfl rfl rfl rfl ?_
    refine WL.no rfl rfl rfl rfl rfl rfl ?_
    refine WL.no rfl rfl rfl rfl rfl rfl ?_
    refine WL.no rfl rfl rfl rfl rfl rfl ?_
    refine WL.no rfl rfl rfl rfl rfl rfl ?_
    refine WL.no rfl rfl rfl rfl rfl rfl ?_
    refine WL.no rfl rfl rfl rfl rfl rfl ?_
    refine WL.ex rfl rfl rfl (Ex.pickT rfl rfl) ?_
    refine qE ?_
    refine WC.yes rfl ?_
    refine qD ?_
    refine WL.ex rfl rfl rfl (Ex.bld bd31 (parts := []) (l := bytesV (List.replicate 32 0)) rfl rfl rfl rfl) ?_
    refine WL.ac0 rfl rfl (Ac.stA M8 ty31 rfl rfl rfl (h32_len (by first | assumption | exact h32_0)) (bytesV_one _) (i := 0) rfl (by first | (rw [h32_len (by first | assumption | exact h32_0), h32_len (by first | assumption | exact h32_0)]; decide) | (rw [h32_len (by first | assumption | exact h32_0)]; decide) | rw [h32_len (by first | assumption | exact h32_0)])) ?_; rintro v18 w18 ⟨K18, M18⟩
    try dsimp only [List.set] at M18
    rw [splice_all _ _ (by first | rw [h32_len (by first | assumption | exact h32_0), h32_len (by first | assumption | exact h32_0)] | rw [h32_len (by first | assumption | exact h32_0)])] at M18
    refine qB ?_
    refine qE ?_
    refine WC.ret ?_
    refine WX.ret_then (?_)
    refine WX.retn rfl (.cell rfl (run_loadVarA ty31 (h32_len (by first | assumption | exact h32_0)) (M18.rdw (i := 0) rfl)) (.tmp rfl .nil)) rfl ?_
    rw [tNode_no (fun h => by omega)]
    exact ⟨rfl, M18.keep⟩
  · rw [decide_eq_false h1]
    refine WL.yes rfl rfl rfl rfl ?_
    refine qA ?_
    refine WL.yes rfl rfl rfl rfl ?_
    refine WL.ex rfl rfl rfl (Ex.lss rfl rfl) ?_
    refine WL.ex rfl rfl rfl (Ex.pickF rfl rfl) ?_
    refine qA ?_
    by_cases h2 : z < 0
    · rw [decide_eq_true h2]
      refine WL.no rfl rfl rfl rfl rfl rfl ?_
      refine WL.no rfl rfl rfl rfl rfl rfl ?_
      refine WL.no rfl rfl rfl rfl rfl rfl ?_
      refine WL.no rfl rfl rfl rfl rfl rfl ?_
      refine WL.ex rfl rfl rfl (Ex.pickT rfl rfl) ?_
      refine qA ?_
      refine WL.no rfl rfl rfl rfl rfl rfl ?_
      refine WL.no rfl rfl rfl rfl rfl rfl ?_
      refine WL.no rfl rfl rfl rfl rfl rfl ?_
      refine WL.no rfl rfl rfl rfl rfl rfl ?_
      refine WL.no rfl rfl rfl rfl rfl rfl ?_
      refine WL.no rfl rfl rfl rfl rfl rfl ?_
      refine WL.no rfl rfl rfl rfl rfl rfl ?_
      refine WL.ex rfl rfl rfl (Ex.pickT rfl rfl) ?_
      refine qE ?_
      refine WC.yes rfl ?_
      refine qD ?_
      refine WL.ex rfl rfl rfl (Ex.bld bd31 (parts := []) (l := bytesV (List.replicate 32 0)) rfl rfl rfl rfl) ?_
      refine WL.ac0 rfl rfl (Ac.stA M8 ty31 rfl rfl rfl (h32_len (by first | assumption | exact h32_0)) (bytesV_one _) (i := 0) rfl (by first | (rw [h32_len (by first | assumption | exact h32_0), h32_len (by first | assumption | exact h32_0)]; decide) | (rw [h32_len (by first | assumption | exact h32_0)]; decide) | rw [h32_len (by first | assumption | exact h32_0)])) ?_; rintro v28 w28 ⟨K28, M28⟩
      try dsimp only [List.set] at M28
      rw [splice_all _ _ (by first | rw [h32_len (by first | assumption | exact h32_0), h32_len (by first | assumption | exact h32_0)] | rw [h32_len (by first | assumption | exact h32_0)])] at M28
      refine qB ?_
      refine qE ?_
      refine WC.ret ?_
      refine WX.ret_then (?_)
      refine WX.retn rfl (.cell rfl (run_loadVarA ty31 (h32_len (by first | assumption | exact h32_0)) (M28.rdw (i := 0) rfl)) (.tmp rfl .nil)) rfl ?_
      rw [tNode_no (fun h => by omega)]
      exact ⟨rfl, M28.keep⟩
    · rw [decide_eq_false h2]
      refine WL.yes rfl rfl rfl rfl ?_
      refine qA ?_
      refine WL.yes rfl rfl rfl rfl ?_
      refine qA ?_
      refine WL.yes rfl rfl rfl rfl ?_
      refine WL.ac rfl rfl rfl (Ac.call rfl Tryd.func64 nm64 rfl (tDepth_ok w8 g gl ge d vs _ (hTr.keep M8.keep) hd)) ?_; rintro v32 w32 ⟨rfl, K32⟩
      have M32 := M8.step K32
      refine WL.yes rfl rfl rfl rfl ?_
      refine WL.ex rfl rfl rfl (Ex.gtr rfl rfl) ?_
      refine WL.ex rfl rfl rfl (Ex.pickF rfl rfl) ?_
      refine qA ?_
      by_cases h3 : (d : Int) < z
      · rw [decide_eq_true h3]
        refine WL.no rfl rfl rfl rfl rfl rfl ?_
        refine WL.no rfl rfl rfl rfl rfl rfl ?_
        refine WL.no rfl rfl rfl rfl rfl rfl ?_
        refine WL.no rfl rfl rfl rfl rfl rfl ?_
        refine WL.no rfl rfl rfl rfl rfl rfl ?_
        refine WL.no rfl rfl rfl rfl rfl rfl ?_
        refine WL.no rfl rfl rfl rfl rfl rfl ?_
        refine WL.ex rfl rfl rfl (Ex.pickT rfl rfl) ?_
        refine qE ?_
        refine WC.yes rfl ?_
        refine qD ?_
        refine WL.ex rfl rfl rfl (Ex.bld bd31 (parts := []) (l := bytesV (List.replicate 32 0)) rfl rfl rfl rfl) ?_
        refine WL.ac0 rfl rfl (Ac.stA M32 ty31 rfl rfl rfl (h32_len (by first | assumption | exact h32_0)) (bytesV_one _) (i := 0) rfl (by first | (rw [h32_len (by first | assumption | exact h32_0), h32_len (by first | assumption | exact h32_0)]; decide) | (rw [h32_len (by first | assumption | exact h32_0)]; decide) | rw [h32_len (by first | assumption | exact h32_0)])) ?_; rintro v38 w38 ⟨K38, M38⟩
        try dsimp only [List.set] at M38
        rw [splice_all _ _ (by first | rw [h32_len (by first | assumption | exact h32_0), h32_len (by first | assumption | exact h32_0)] | rw [h32_len (by first | assumption | exact h32_0)])] at M38
        refine qB ?_
        refine qE ?_
        refine WC.ret ?_
        refine WX.ret_then (?_)
        refine WX.retn rfl (.cell rfl (run_loadVarA ty31 (h32_len (by first | assumption | exact h32_0)) (M38.rdw (i := 0) rfl)) (.tmp rfl .nil)) rfl ?_
        rw [tNode_no (fun h => by omega)]
        exact ⟨rfl, M38.keep⟩
      · rw [decide_eq_false h3]
        obtain ⟨k, rfl⟩ := Int.eq_ofNat_of_zero_le (show 0 ≤ z by omega)
        refine WL.yes rfl rfl rfl rfl ?_
        refine qA ?_
        refine WL.yes rfl rfl rfl rfl ?_
        refine qA ?_
        refine WL.yes rfl rfl rfl rfl ?_
        refine WL.ac rfl rfl rfl (Ac.call rfl Tryd.func64 nm64 rfl (tDepth_ok w32 g gl ge d vs _ (hTr.keep M32.keep) hd)) ?_; rintro v42 w42 ⟨rfl, K42⟩
        have M42 := M32.step K42
        refine WL.yes rfl rfl rfl rfl ?_
        refine qA ?_
        refine WL.yes rfl rfl rfl rfl ?_
        refine WL.ex rfl rfl rfl (Ex.sub rfl rfl (c := ((d - k : Nat) : Int)) (by rw [i64w _ (by omega) (by omega)]; omega)) ?_
        refine WL.yes rfl rfl rfl rfl ?_
        refine WL.ex rfl rfl rfl (Ex.shr rfl rfl (m := d - k) rfl (c := ((p / 2 ^ (d - k) : Nat) : Int)) (shrN _ _ _ (by simp [IntKind.bits]; omega))) ?_
        refine WL.yes rfl rfl rfl rfl ?_
        refine WL.ex rfl rfl rfl (Ex.neI rfl rfl) ?_
        refine WL.ex rfl rfl rfl (Ex.pickF rfl rfl) ?_
        refine qE ?_
        refine WC.cond rfl (fun h4 => ?_) (fun h4 => ?_)
        · have h5 : ¬ p / 2 ^ (d - k) = 0 := fun h6 => by rw [h6] at h4; simp at h4
          refine qD ?_
          refine WL.ex rfl rfl rfl (Ex.bld bd31 (parts := []) (l := bytesV (List.replicate 32 0)) rfl rfl rfl rfl) ?_
          refine WL.ac0 rfl rfl (Ac.stA M42 ty31 rfl rfl rfl (h32_len (by first | assumption | exact h32_0)) (bytesV_one _) (i := 0) rfl (by first | (rw [h32_len (by first | assumption | exact h32_0), h32_len (by first | assumption | exact h32_0)]; decide) | (rw [h32_len (by first | assumption | exact h32_0)]; decide) | rw [h32_len (by first | assumption | exact h32_0)])) ?_; rintro v49 w49 ⟨K49, M49⟩
          try dsimp only [List.set] at M49
          rw [splice_all _ _ (by first | rw [h32_len (by first | assumption | exact h32_0), h32_len (by first | assumption | exact h32_0)] | rw [h32_len (by first | assumption | exact h32_0)])] at M49
          refine qB ?_
          refine qE ?_
          refine WC.ret ?_
          refine WX.ret_then (?_)
          refine WX.retn rfl (.cell rfl (run_loadVarA ty31 (h32_len (by first | assumption | exact h32_0)) (M49.rdw (i := 0) rfl)) (.tmp rfl .nil)) rfl ?_
          rw [tNode_no (fun h => h5 (by simpa using h.2.2.2))]
          exact ⟨rfl, M49.keep⟩
        · have h5 : p / 2 ^ (d - k) = 0 := by
            have h6 : ((p / 2 ^ (d - k) : Nat) : Int) = 0 := (by simpa using h4)
            exact_mod_cast h6
          have hnl : n ≤ ls.length := by omega
          have hyes := tNode_yes (a := nd dNode e0 (ls.take n) k p) hnl (show k ≤ d by omega) h5 rfl
          have hmul := Nat.lt_mul_div_succ n (show 0 < 2 ^ k from Nat.pow_pos (by decide))
          have hdl := Nat.div_le_div_right (c := 2 ^ k) hnl
          have hntk := nd_take (N := dNode) (e := e0) (ls := ls) (n := n) (k := k) (p := p)
          have hltd := lt_div (p := p) (n := n) (k := k)
          have hr32 := nd32 (take32 hls n) k p
          have hn32 := nd32 hls k p
          have hem := nd_emp (N := dNode) (e := e0) (ls := ls.take n) k p
          have he32 := emp32 k
          have hpl := Nat.mul_le_mul_right (2 ^ k) (n := n / 2 ^ k + 1) (m := p)
          obtain ⟨q, hq⟩ : ∃ q, q = n / 2 ^ k := ⟨_, rfl⟩
          have hll : (levOf dNode e0 ls k).length = ls.length / 2 ^ k := levOf_len _ _
          obtain ⟨q2, hq2⟩ : ∃ q, q = ls.length / 2 ^ k := ⟨_, rfl⟩
          rw [← hq2] at hdl hll
          rw [← hq] at hmul hdl hltd hpl
          refine WC.skip ?_
          refine WX.next ?_
          refine WC.seq ?_
          refine qD ?_
          refine qA ?_
          refine qA ?_
          refine WL.ex rfl rfl rfl (Ex.shr rfl rfl (m := k) rfl (c := ((q : Nat) : Int)) (by rw [hq]; exact shrN _ _ _ (by simp [IntKind.bits]; omega))) ?_
          refine qB ?_
          refine qE ?_
          refine WC.block ?_
          refine qD ?_
          refine qA ?_
          refine qA ?_
          refine WL.ex rfl rfl rfl (Ex.lss rfl rfl) ?_
          refine qB ?_
          refine qE ?_
          refine WC.cond_dec rfl (fun h42 => ?_) (fun h42 => ?_)
          · have hpq : p < q := by omega
            obtain ⟨bk, ok_, ck, hvk, hrk, _⟩ := hTr.at' (lvOf_get (j := k) (by omega)) (lev32 hls k) (by omega)
            rw [hntk (hltd hpq)] at hyes
            refine qD ?_
            refine qA ?_
            refine WL.ex rfl rfl rfl (Ex.nilc rfl) ?_
            refine WL.ex rfl rfl rfl (Ex.fa fl130_0 rfl) ?_
            refine WL.ex rfl rfl rfl (Ex.load ty128 rfl (hTr.keep M42.keep).c0) ?_
            refine qA ?_
            refine WL.ex rfl rfl rfl (Ex.ia Tryd.underlying128 sz39 rfl rfl ⟨by omega, by omega⟩) ?_
            refine WL.ex rfl rfl rfl (Ex.load ty39 rfl ((hTr.keep M42.keep).ck hvk (by simp))) ?_
            refine qA ?_
            refine WL.ex rfl rfl rfl (Ex.ia Tryd.underlying39 sz31 rfl rfl ⟨by omega, by omega⟩) ?_
            refine WL.ex rfl rfl rfl (Ex.loadA ty31 rfl (l := bytesV (nd dNode e0 ls k p)) (by simpa using hn32) (fl_at (hrk.keep0 M42.keep) (lev32 hls k) (levOf_get (p := p) (by rw [← hq2]; omega)) (by simp))) ?_
            refine WL.ac0 rfl rfl (Ac.stA M42 ty31 rfl rfl rfl (h32_len (by first | assumption | exact h32_0)) (bytesV_one _) (i := 0) rfl (by first | (rw [h32_len (by first | assumption | exact h32_0), h32_len (by first | assumption | exact h32_0)]; decide) | (rw [h32_len (by first | assumption | exact h32_0)]; decide) | rw [h32_len (by first | assumption | exact h32_0)])) ?_; rintro v69 w69 ⟨K69, M69⟩
            try dsimp only [List.set] at M69
            rw [splice_all _ _ (by first | rw [h32_len (by first | assumption | exact h32_0), h32_len (by first | assumption | exact h32_0)] | rw [h32_len (by first | assumption | exact h32_0)])] at M69
            refine qB ?_
            refine qE ?_
            refine WC.ret ?_
            refine WX.ret_block (WX.ret_then (?_))
            refine WX.retn rfl (.cell rfl (run_loadVarA ty31 (h32_len (by first | assumption | exact h32_0)) (M69.rdw (i := 0) rfl)) (.tmp rfl .nil)) rfl ?_
            rw [hyes]
            exact ⟨rfl, M69.keep⟩
          · skip
            refine qD ?_
            refine qA ?_
            refine qA ?_
            refine WL.ex rfl rfl rfl (Ex.eqI rfl rfl) ?_
            refine qB ?_
            refine qE ?_
            refine WC.cond_dec rfl (fun h56 => ?_) (fun h56 => ?_)
            · obtain rfl : p = q := by omega
              refine qD ?_
              refine qA ?_
              refine qA ?_
              refine qA ?_
              refine WL.ac rfl rfl rfl (Ac.call rfl Tryd.func77 nm77 rfl (tEdge_ok w42 g gl ge d vs ls n k (hTr.keep M42.keep) (hE.keep M42.keep) hls hnl (by omega) hd (hT.keep M42.keep))) ?_; rintro v78 w78 ⟨rfl, K78⟩
              rw [← hq]
              have M78 := M42.step K78
              refine WL.ac0 rfl rfl (Ac.stA M78 ty31 rfl rfl rfl (h32_len (by first | assumption | exact h32_0)) (bytesV_one _) (i := 0) rfl (by first | (rw [h32_len (by first | assumption | exact h32_0), h32_len (by first | assumption | exact h32_0)]; decide) | (rw [h32_len (by first | assumption | exact h32_0)]; decide) | rw [h32_len (by first | assumption | exact h32_0)])) ?_; rintro v79 w79 ⟨K79, M79⟩
              try dsimp only [List.set] at M79
              rw [splice_all _ _ (by first | rw [h32_len (by first | assumption | exact h32_0), h32_len (by first | assumption | exact h32_0)] | rw [h32_len (by first | assumption | exact h32_0)])] at M79
              refine qB ?_
              refine qE ?_
              refine WC.ret ?_
              refine WX.ret_block (WX.ret_then (?_))
              refine WX.retn rfl (.cell rfl (run_loadVarA ty31 (h32_len (by first | assumption | exact h32_0)) (M79.rdw (i := 0) rfl)) (.tmp rfl .nil)) rfl ?_
              rw [hyes]
              exact ⟨rfl, M79.keep⟩
            · have hem2 := hem (by rw [Nat.mul_comm] at hmul; have := hpl (by omega); simp; omega)
              rw [hem2] at hyes
              refine WC.skip ?_
              refine WX.normal_block (WX.next (?_))
              refine qD ?_
              refine qA ?_
              refine WL.ex rfl rfl rfl (Ex.nilc rfl) ?_
              refine WL.ex rfl rfl rfl (Ex.fa fl130_1 rfl) ?_
              refine WL.ex rfl rfl rfl (Ex.load ty39 rfl (hTr.keep M42.keep).c1) ?_
              refine qA ?_
              refine WL.ex rfl rfl rfl (Ex.ia Tryd.underlying39 sz31 rfl rfl ⟨by omega, by omega⟩) ?_
              refine WL.ex rfl rfl rfl (Ex.loadA ty31 rfl (l := bytesV (emp dNode e0 k)) (by simpa using he32) (fl_at (hE.keep M42.keep) (emps32 _) (emps_get (k := k) (by omega)) (by simp))) ?_
              refine WL.ac0 rfl rfl (Ac.stA M42 ty31 rfl rfl rfl (h32_len (by first | assumption | exact h32_0)) (bytesV_one _) (i := 0) rfl (by first | (rw [h32_len (by first | assumption | exact h32_0), h32_len (by first | assumption | exact h32_0)]; decide) | (rw [h32_len (by first | assumption | exact h32_0)]; decide) | rw [h32_len (by first | assumption | exact h32_0)])) ?_; rintro v88 w88 ⟨K88, M88⟩
              try dsimp only [List.set] at M88
              rw [splice_all _ _ (by first | rw [h32_len (by first | assumption | exact h32_0), h32_len (by first | assumption | exact h32_0)] | rw [h32_len (by first | assumption | exact h32_0)])] at M88
              refine qB ?_
              refine qE ?_
              refine WC.ret ?_
              refine WX.retn rfl (.cell rfl (run_loadVarA ty31 (h32_len (by first | assumption | exact h32_0)) (M88.rdw (i := 0) rfl)) (.tmp rfl .nil)) rfl ?_
              rw [hyes]
              exact ⟨rfl, M88.keep⟩

end Go.Proofs.YtchmjpdkonfifaaDoor
