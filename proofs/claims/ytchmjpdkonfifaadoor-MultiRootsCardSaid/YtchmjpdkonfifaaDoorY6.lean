/- Walks, written by gen.py off the translation's own print: each says what the Go function comes to. -/
import Derived.Test.YtchmjpdkonfifaaDoorY5
import Derived.Test.YtchmjpdkonfifaaDoorY3
import Derived.Test.YtchmjpdkonfifaaDoorAl
set_option linter.unusedVariables false
set_option linter.unusedSimpArgs false
namespace Go.Proofs.YtchmjpdkonfifaaDoor
open Go.Sx Go.RowKit
attribute [local irreducible] Ac Ex WL WC WX WP Gives sha

theorem old_sat {r rj : Res} {w w9 W : World} {rs : List Res} (M : Mem w w9 nof rs) {i : Nat} (hi : rs[i]? = some rj) (h : r.sat w) (K : Keep (fun b => b ∈ rj.fp) w9 W) : r.sat W :=
  keepR K (Res.keep0 h M.keep) (fun b hb hb2 => by
    have h2 := r.lt w h b hb
    rcases M.own rj (List.mem_of_getElem? hi) b hb2 with h3 | h3
    · omega
    · exact h3)
/-- The nodes that a level asks for, in order. -/
def sibL (f : Nat → Nat → List UInt8) (l : Nat) : List Nat → Hs
  | [] => []
  | [i] => [f l (i ^^^ 1)]
  | i :: k :: r => if i % 2 = 0 ∧ k = i + 1 then sibL f l r else f l (i ^^^ 1) :: sibL f l (k :: r)
def sibs (f : Nat → Nat → List UInt8) : Nat → Nat → List Nat → Hs
  | 0, _, _ => []
  | d + 1, l, zs => sibL f l zs ++ sibs f d (l + 1) (ups zs)
abbrev flM (f : Nat → Nat → List UInt8) : Hs → Nat → Nat → Option Hs := fun t l i => some (t ++ [f l i])
abbrev fpM : Hs → Nat → Bool → Hs := fun t _ _ => t
theorem lvl_sib (f : Nat → Nat → List UInt8) (l : Nat) : ∀ (zs : List Nat) (t : Hs), Go.Sx.lvl (flM f) fpM l zs t = some (t ++ sibL f l zs)
  | [], t => by rw [sibL, List.append_nil]; rfl
  | [i], t => rfl
  | i :: k :: r, t => by
    rw [Go.Sx.lvl, sibL]
    split
    · exact lvl_sib f l r t
    · show Go.Sx.lvl (flM f) fpM l (k :: r) (t ++ [f l (i ^^^ 1)]) = _
      rw [lvl_sib f l (k :: r), List.append_assoc]
      rfl
theorem climb_sib (f : Nat → Nat → List UInt8) : ∀ (d l : Nat) (zs : List Nat) (t : Hs), climbF (flM f) fpM d l zs t = some (t ++ sibs f d l zs)
  | 0, l, zs, t => by rw [sibs, List.append_nil]; rfl
  | d + 1, l, zs, t => by
    rw [climbF, lvl_sib, sibs]
    show climbF (flM f) fpM d (l + 1) (ups zs) (t ++ sibL f l zs) = _
    rw [climb_sib f d, List.append_assoc]
theorem sibL_len (f : Nat → Nat → List UInt8) (l : Nat) : ∀ zs : List Nat, (sibL f l zs).length = cntL zs
  | [] => rfl
  | [i] => rfl
  | i :: k :: r => by
    rw [sibL, cntL]
    split
    · exact sibL_len f l r
    · rw [List.length_cons, sibL_len f l (k :: r)]
theorem sibs_len (f : Nat → Nat → List UInt8) : ∀ (d l : Nat) (zs : List Nat), (sibs f d l zs).length = cnt d zs
  | 0, _, _ => rfl
  | d + 1, l, zs => by rw [sibs, cnt, List.length_append, sibL_len, sibs_len f d]

/- sponsion/multi.Make$1 -/
theorem make1_ok (w : World) (g3 g4 gB gt gl ge d : Nat) (vs : List Value) (ls hs : Hs) (pv v : Value) (n l i : Nat) (hR : (sep (blk gB [pv, v] 72) (row v 31 32 (List.length hs) (fl hs))).sat w) (h3 : w.cell? ⟨g3, 0, none⟩ = some (.pointer (some ⟨gt, 0, none⟩))) (h4 : w.cell? ⟨g4, 0, none⟩ = some (.int .u64 (n : Int))) (hTr : TreeS w gt gl ge d vs (lvOf dNode e0 d ls)) (hE : ES w ge d) (hls : ∀ a ∈ ls, H32 a) (hn : n < 18446744073709551616) (hl : l ≤ 100) (hi : i < 18446744073709551616) (hd : d ≤ 32) (hT : Tabs w) (hb : hs.length ≤ 100000) :
    Gives Tryd.prog 62 #[.int .i64 (l : Int), .int .u64 (i : Int), .pointer (some ⟨g3, 0, none⟩), .pointer (some ⟨g4, 0, none⟩), .pointer (some ⟨gB, 0, none⟩)] w fun u w1 => ∃ v', u = .bool true ∧ Turn w w1 (sep (blk gB [pv, v] 72) (row v 31 32 (List.length hs) (fl hs))) (sep (blk gB [pv, v'] 72) (row v' 31 32 (List.length (hs ++ [(tNode d ls n l i).1])) (fl (hs ++ [(tNode d ls n l i).1])))) := by
  obtain ⟨FF, hFF⟩ : ∃ FF : Nat → Prop, FF = (fun b => b ∈ (sep (blk gB [pv, v] 72) (row v 31 32 (List.length hs) (fl hs))).fp) := ⟨_, rfl⟩
  have M0 : Mem w w FF [sep (blk gB [pv, v] 72) (row v 31 32 (List.length hs) (fl hs))] := by rw [hFF]; exact Mem.begin hR
  replace M0 := M0.openS
  have h32 := tNode_32 (d := d) hls n l i
  refine Gives.enter (n := 24) Tryd.func62 rfl Tryd.ntmps62 rfl (env := [(0, .int .i64 (l : Int)), (1, .int .u64 (i : Int)), (2, .pointer (some ⟨g3, 0, none⟩)), (3, .pointer (some ⟨g4, 0, none⟩)), (4, .pointer (some ⟨gB, 0, none⟩))]) rfl ?_
  refine qD ?_
  refine qB ?_
  refine qE ?_
  refine qD ?_
  refine WL.ex rfl rfl rfl (Ex.load ty68 rfl h3) ?_
  refine WL.ex rfl rfl rfl (Ex.load ty23 rfl h4) ?_
  refine qA ?_
  refine qA ?_
  refine WL.ac rfl rfl rfl (Ac.call rfl Tryd.func40 nm40 rfl (tNode_ok w gt gl ge d vs ls n (l : Int) i hTr hE hls hn (by omega) hi hd hT)) ?_; rintro v6 w6 ⟨rfl, K6⟩
  have M6 := M0.step K6
  refine qA ?_
  refine WL.ex rfl rfl rfl (Ex.ext rfl rfl) ?_
  refine WL.ex rfl rfl rfl (Ex.ext rfl rfl) ?_
  refine WL.ac rfl rfl rfl (Ac.alloc M6 (l := bytesV (List.replicate 32 0)) (by kernel_rfl)) ?_; rintro v10 w10 ⟨gh, rfl, hg10, K10, M10⟩
  refine WL.ac0 rfl rfl (Ac.stA M10 ty31 rfl rfl rfl (h32_len (by first | assumption | exact h32_0)) (bytesV_one _) (i := 0) rfl (by first | (rw [h32_len (by first | assumption | exact h32_0), h32_len (by first | assumption | exact h32_0)]; decide) | (rw [h32_len (by first | assumption | exact h32_0)]; decide) | rw [h32_len (by first | assumption | exact h32_0)])) ?_; rintro v11 w11 ⟨K11, M11⟩
  try dsimp only [List.set] at M11
  rw [splice_all _ _ (by first | rw [h32_len (by first | assumption | exact h32_0), h32_len (by first | assumption | exact h32_0)] | rw [h32_len (by first | assumption | exact h32_0)])] at M11
  refine qB ?_
  refine qE ?_
  refine qD ?_
  refine WL.ex rfl rfl rfl (Ex.fa fl72_1 rfl) ?_
  refine WL.ex rfl rfl rfl (Ex.load ty39 rfl (M11.cell (i := 1) rfl rfl)) ?_
  refine WL.ex rfl rfl rfl (Ex.loadA ty31 rfl (l := bytesV (tNode d ls n l i).1) (h32_len h32) (M11.rdw (i := 0) rfl)) ?_
  refine WL.ac rfl rfl rfl (Ac.bs M11 (parts := [(0, .tmp 20)]) rfl rfl (LitS.agg1 el39 rfl (h32_len h32) (by decide))) ?_; rintro v16 w16 ⟨gs, rfl, hg16, K16, M16⟩
  refine WL.ac rfl rfl rfl (Ac.app M16 el39 rfl rfl (i := 3) rfl (by rw [h32_len h32]) (M16.rdw (i := 0) rfl) (bytesV_one _) (by omega) (by unfold maxLen; omega)) ?_; rintro v17 w17 ⟨K17, M17⟩
  try dsimp only [List.set] at M17
  rw [show fl hs ++ bytesV (tNode d ls n l i).1 = fl (hs ++ [(tNode d ls n l i).1]) by simp [fl], show hs.length + 1 = (hs ++ [(tNode d ls n l i).1]).length by simp] at M17
  obtain ⟨AN, cN, rfl⟩ := own_slice (M17.get (i := 3) rfl)
  refine WL.ex rfl rfl rfl (Ex.fa fl72_1 rfl) ?_
  refine WL.ac0 rfl rfl (Ac.st M17 ty39 rfl rfl rfl (i := 2) rfl (by simp)) ?_; rintro v19 w19 ⟨K19, M19⟩
  try dsimp only [List.set] at M19
  refine qE ?_
  refine qD ?_
  refine qB ?_
  refine qE ?_
  refine WC.ret ?_
  refine WX.ret1 rfl rfl ?_
  have Mf : Mem w w19 FF [blk gB [pv, (.slice AN (hs ++ [(tNode d ls n l i).1]).length cN)] 72, row (.slice AN (hs ++ [(tNode d ls n l i).1]).length cN) 31 32 (List.length (hs ++ [(tNode d ls n l i).1])) (fl (hs ++ [(tNode d ls n l i).1]))] := (Mem.sub M19 (.cons _ (.cons _ (.refl _))))
  subst hFF
  exact ⟨_, rfl, (Mem.closeS Mf).toTurn⟩

end Go.Proofs.YtchmjpdkonfifaaDoor

set_option linter.unusedVariables false
set_option linter.unusedSimpArgs false
namespace Go.Proofs.YtchmjpdkonfifaaDoor
open Go.Sx Go.RowKit
attribute [local irreducible] Ac Ex WL WC WX WP Gives sha

theorem _root_.Go.Sx.Mem.tabF {w0 w : World} {rs : List Res} {r : Res} (M : Mem w0 w nof rs) (hT : Tabs w0) (i : Nat) (hi : rs[i]? = some r) : ∀ b ∈ r.fp, b ≠ 1 ∧ b ≠ 2 :=
  fun b hb => (M.own _ (List.mem_of_getElem? hi) b hb).elim (fun hle => hT.fresh hle) (fun f => f.elim)

/- sponsion/multi.Make$2 -/
theorem make2_ok (w : World) (i : Int) (b : Bool) : Gives Tryd.prog 65 #[.int .u64 i, .bool b] w fun u w1 => Keep nof w w1 := by
  have M0 := Mem.start w nof
  refine Gives.enter (n := 4) Tryd.func65 rfl Tryd.ntmps65 rfl (env := [(0, .int .u64 i), (1, .bool b)]) rfl ?_
  refine WC.skip ?_
  refine WX.end0 rfl ?_
  exact M0.keep

/- sponsion/multi.Make -/
theorem make_ok (w : World) (gt gl ge d n c : Nat) (vs : List Value) (ls : Hs) (A : Option Addr) (xs : List Nat) (hTr : (treeR gt gl ge d vs (lvOf dNode e0 d ls)).sat w) (hE : (blk ge (fl (emps dNode e0 (d + 1))) 31).sat w) (hls : ∀ a ∈ ls, H32 a) (hll : ls.length ≤ 1000) (hn : n < 18446744073709551616) (hd : d ≤ 32) (hT : Tabs w) (hr : Rd w A (u64V xs)) (hx : ∀ k, gv xs k < 18446744073709551616) (hn50 : xs.length < 50) :
    Gives Tryd.prog 31 #[.pointer (some ⟨gt, 0, none⟩), .int .u64 (n : Int), .slice A xs.length c] w fun u w1 => ∃ v1 v2, ∃ e : Int, ∃ zs hs, u = .tuple #[.agg #[v1, v2], .int .i64 e] ∧ New w w1 (sep (row v1 23 1 (List.length zs) (u64V zs)) (row v2 31 32 (List.length hs) (fl hs))) ∧
      (if ls.length < n then e = 1 ∧ zs = [] ∧ hs = [] else if xs.length = 0 then e = 3 ∧ zs = [] ∧ hs = [] else if n ≤ mxp xs xs.length then e = 10 ∧ zs = [] ∧ hs = [] else e = 0 ∧ Rise xs zs ∧ hs = sibs (fun l i => (tNode d ls n l i).1) d 0 zs) := by
  have M0 := Mem.start w nof
  have hl0 := lvOf_get (N := dNode) (e := e0) (d := d) (ls := ls) (j := 0) (by omega)
  rw [levOf_zero] at hl0
  refine Gives.enter (n := 42) Tryd.func31 rfl Tryd.ntmps31 rfl (env := [(0, .pointer (some ⟨gt, 0, none⟩)), (1, .int .u64 (n : Int)), (2, .slice A xs.length c)]) rfl ?_
  refine qD ?_
  refine WL.ac rfl rfl rfl (Ac.box M0 rfl (l := [.pointer (some ⟨gt, 0, none⟩)]) rfl) ?_; rintro v1 w1 ⟨g3, rfl, hg1, K1, M1⟩
  refine WL.ac rfl rfl rfl (Ac.box M1 rfl (l := [.int .u64 (n : Int)]) rfl) ?_; rintro v2 w2 ⟨g4, rfl, hg2, K2, M2⟩
  refine WL.ac rfl rfl rfl (Ac.alloc M2 (l := [.slice none 0 0, .slice none 0 0]) (by kernel_rfl)) ?_; rintro v3 w3 ⟨gr, rfl, hg3, K3, M3⟩
  refine qB ?_
  refine qE ?_
  refine WC.seq ?_
  refine WC.block ?_
  refine WC.seq ?_
  refine WC.draw (Keep nof w3.drew) [] (.one 0 1 (.one 1 0 (.one 2 0 (.one 3 1 (.one 4 1 (.one 5 2 (.one 6 0 (.one 7 0 (.one 8 0 .nil))))))))) mixed (by kernel_rfl) (by kernel_rfl) (by kernel_rfl) (HQ.then_ (HQ.block (HQ.then_ HQ.body))) ?_
  obtain ⟨w5, hw5⟩ : ∃ v, v = w3.drew := ⟨_, rfl⟩
  have D5 : Keep nof w3 w5 := by rw [hw5]; exact Keep.drew _ _
  have M5 := M3.step D5
  rw [← hw5]; clear hw5
  refine WP.q (Keep.refl _ _) rfl rfl rfl rfl (fun w' hS => Ex.load ty68 rfl (hS.cell (M5.cell (i := 2) rfl rfl) (fun f => f))) ?_
  refine WP.p rfl rfl rfl rfl (fun _ => Ex.eqPn Tryd.underlying68 rfl) ?_
  refine qC ?_
  refine WP.qy (Keep.refl _ _) rfl rfl rfl rfl rfl rfl (fun w' hS => Ex.load ty23 rfl (hS.cell (M5.cell (i := 1) rfl rfl) (fun f => f))) ?_
  refine WP.qy (Keep.refl _ _) rfl rfl rfl rfl rfl rfl (fun w' hS => Ex.load ty68 rfl (hS.cell (M5.cell (i := 2) rfl rfl) (fun f => f))) ?_
  refine WP.ays rfl rfl rfl rfl rfl rfl (Ac.call rfl Tryd.func59 nm59 rfl (tLen_ok w5 gt gl ge d vs (lvOf dNode e0 d ls) ls (TreeS.of (Res.keep0 hTr M5.keep) (lvOf_len _ _)) hl0)) ?_; rintro v11 w11 ⟨rfl, K11⟩
  refine ⟨Keep nof w11, fun u h => K11.trans h, Keep.refl _ _, ?_⟩
  have M11 := M5.step K11
  refine WP.py rfl rfl rfl rfl rfl rfl (fun _ => Ex.gtr rfl rfl) ?_
  refine WP.p rfl rfl rfl rfl (fun _ => Ex.pickF rfl rfl) ?_
  refine WP.p rfl rfl rfl rfl (fun _ => Ex.asg rfl) ?_
  refine WP.nil ?_
  refine WX.next ?_
  refine WC.cond_dec rfl (fun h10 => ?_) (fun h10 => ?_)
  · have hw : ls.length < n := by omega
    refine qD ?_
    refine WL.ex rfl rfl rfl (Ex.bld bd72 (parts := []) (l := [.slice none 0 0, .slice none 0 0]) rfl rfl rfl rfl) ?_
    refine WL.ac0 rfl rfl (Ac.stA M11 ty72 rfl rfl (vs := [.slice none 0 0, .slice none 0 0]) rfl rfl (by intro u hu; simp at hu; rcases hu with rfl | rfl <;> rfl) (i := 0) rfl (by simp)) ?_; rintro v16 w16 ⟨K16, M16⟩
    try dsimp only [List.set] at M16
    try dsimp only [List.set] at M16
    rw [splice_all _ _ (by simp)] at M16
    refine qB ?_
    refine qE ?_
    refine WC.ret ?_
    refine WX.ret_block (WX.ret_then (?_))
    refine WX.retn rfl (.cell rfl (run_loadVarA ty72 (by rfl) (M16.rdw (i := 0) rfl)) (.tmp rfl .nil)) rfl ?_
    have Mz : Mem w w16 nof [] := Mem.sub M16 (List.nil_sublist _)
    have Mz2 := ((Mz.free (r := row (.slice none 0 0) 31 32 (List.length ([] : Hs)) (fl ([] : Hs))) (row_nil _ _ _) rfl).free (r := row (.slice none 0 0) 23 1 (List.length ([] : List Nat)) (u64V [])) (row_nil _ _ _) rfl).closeS
    exact ⟨_, _, 1, [], [], rfl, Mz2.toNew, by rw [if_pos hw]; exact ⟨rfl, rfl, rfl⟩⟩
  · have hw : ¬ ls.length < n := by omega
    refine qD ?_
    refine qA ?_
    refine WL.ex rfl rfl rfl (Ex.len Tryd.underlying67 rfl) ?_
    refine WL.ex rfl rfl rfl (Ex.eqI rfl rfl) ?_
    refine qB ?_
    refine qE ?_
    refine WC.cond_dec rfl (fun h20 => ?_) (fun h20 => ?_)
    · have hl0x : xs.length = 0 := by omega
      refine qD ?_
      refine WL.ex rfl rfl rfl (Ex.bld bd72 (parts := []) (l := [.slice none 0 0, .slice none 0 0]) rfl rfl rfl rfl) ?_
      refine WL.ac0 rfl rfl (Ac.stA M11 ty72 rfl rfl (vs := [.slice none 0 0, .slice none 0 0]) rfl rfl (by intro u hu; simp at hu; rcases hu with rfl | rfl <;> rfl) (i := 0) rfl (by simp)) ?_; rintro v23 w23 ⟨K23, M23⟩
      try dsimp only [List.set] at M23
      try dsimp only [List.set] at M23
      rw [splice_all _ _ (by simp)] at M23
      refine qB ?_
      refine qE ?_
      refine WC.ret ?_
      refine WX.ret_block (WX.ret_then (?_))
      refine WX.retn rfl (.cell rfl (run_loadVarA ty72 (by rfl) (M23.rdw (i := 0) rfl)) (.tmp rfl .nil)) rfl ?_
      have Mz : Mem w w23 nof [] := Mem.sub M23 (List.nil_sublist _)
      have Mz2 := ((Mz.free (r := row (.slice none 0 0) 31 32 (List.length ([] : Hs)) (fl ([] : Hs))) (row_nil _ _ _) rfl).free (r := row (.slice none 0 0) 23 1 (List.length ([] : List Nat)) (u64V [])) (row_nil _ _ _) rfl).closeS
      exact ⟨_, _, 3, [], [], rfl, Mz2.toNew, by rw [if_neg hw, if_pos hl0x]; exact ⟨rfl, rfl, rfl⟩⟩
    · have hl0x : ¬ xs.length = 0 := by omega
      refine WC.seq ?_
      refine WC.draw (Keep nof w11.drew) [] (.one 0 0 (.one 2 1 (.one 1 2 (.one 3 0 (.one 4 0 .nil))))) mixed (by kernel_rfl) (by kernel_rfl) (by kernel_rfl) (HQ.then_ (HQ.block (HQ.then_ HQ.body))) ?_
      obtain ⟨w25, hw25⟩ : ∃ v, v = w11.drew := ⟨_, rfl⟩
      have D25 : Keep nof w11 w25 := by rw [hw25]; exact Keep.drew _ _
      have M25 := M11.step D25
      rw [← hw25]; clear hw25
      refine qC ?_
      refine WP.q (Keep.refl _ _) rfl rfl rfl rfl (fun w' hS => Ex.load ty23 rfl (hS.cell (M25.cell (i := 1) rfl rfl) (fun f => f))) ?_
      refine WP.as rfl rfl rfl rfl (Ac.call rfl Tryd.func60 nm60 rfl (mxU_ok w25 A c xs (M25.rd hr) (by omega) (by omega))) ?_; rintro v28 w28 ⟨rfl, K28⟩
      refine ⟨Keep nof w28, fun u h => K28.trans h, Keep.refl _ _, ?_⟩
      have M28 := M25.step K28
      refine WP.p rfl rfl rfl rfl (fun _ => Ex.geq rfl rfl) ?_
      refine WP.p rfl rfl rfl rfl (fun _ => Ex.asg rfl) ?_
      refine WP.nil ?_
      refine WX.next ?_
      refine WC.cond_dec rfl (fun h25 => ?_) (fun h25 => ?_)
      · have hmx : n ≤ mxp xs xs.length := by omega
        refine qD ?_
        refine WL.ex rfl rfl rfl (Ex.bld bd72 (parts := []) (l := [.slice none 0 0, .slice none 0 0]) rfl rfl rfl rfl) ?_
        refine WL.ac0 rfl rfl (Ac.stA M28 ty72 rfl rfl (vs := [.slice none 0 0, .slice none 0 0]) rfl rfl (by intro u hu; simp at hu; rcases hu with rfl | rfl <;> rfl) (i := 0) rfl (by simp)) ?_; rintro v32 w32 ⟨K32, M32⟩
        try dsimp only [List.set] at M32
        try dsimp only [List.set] at M32
        rw [splice_all _ _ (by simp)] at M32
        refine qB ?_
        refine qE ?_
        refine WC.ret ?_
        refine WX.ret_block (WX.ret_then (?_))
        refine WX.retn rfl (.cell rfl (run_loadVarA ty72 (by rfl) (M32.rdw (i := 0) rfl)) (.tmp rfl .nil)) rfl ?_
        have Mz : Mem w w32 nof [] := Mem.sub M32 (List.nil_sublist _)
        have Mz2 := ((Mz.free (r := row (.slice none 0 0) 31 32 (List.length ([] : Hs)) (fl ([] : Hs))) (row_nil _ _ _) rfl).free (r := row (.slice none 0 0) 23 1 (List.length ([] : List Nat)) (u64V [])) (row_nil _ _ _) rfl).closeS
        exact ⟨_, _, 10, [], [], rfl, Mz2.toNew, by rw [if_neg hw, if_neg hl0x, if_pos hmx]; exact ⟨rfl, rfl, rfl⟩⟩
      · have hmx : ¬ n ≤ mxp xs xs.length := by omega
        refine WC.skip ?_
        refine WX.normal_block (WX.next (?_))
        refine qD ?_
        refine qA ?_
        refine WL.ac rfl rfl rfl (Ac.call rfl Tryd.func61 nm61 rfl (sorted_ok w28 A c xs (M28.rd hr) (by omega) hn50)) ?_; rintro v35 w35 ⟨g, zs, tl, c2, rfl, hri, hcl, hcm, N35⟩
        have M35 := M28.new N35
        have hzl := hri.le
        have hzp := hri.pos
        refine WL.ex rfl rfl rfl (Ex.bldS bd72 (parts := [(0, .tmp 32)]) [[.slice (some ⟨g, 0, none⟩) zs.length c2]] (l := [.slice (some ⟨g, 0, none⟩) zs.length c2, .slice none 0 0]) rfl rfl rfl ⟨0, 1, rfl, rfl, rfl, by simp, rfl⟩) ?_
        refine WL.ac rfl rfl rfl (Ac.alloc M35 (l := [.slice none 0 0, .slice none 0 0]) (by kernel_rfl)) ?_; rintro v37 w37 ⟨gB, rfl, hg37, K37, M37⟩
        refine WL.ac0 rfl rfl (Ac.stA M37 ty72 rfl rfl (vs := [.slice (some ⟨g, 0, none⟩) zs.length c2, .slice none 0 0]) rfl rfl (by intro u hu; simp at hu; rcases hu with rfl | rfl <;> rfl) (i := 0) rfl (by simp)) ?_; rintro v38 w38 ⟨K38, M38⟩
        try dsimp only [List.set] at M38
        rw [splice_all _ _ (by simp)] at M38
        have M38 := ((M38.free (r := row (.slice none 0 0) 31 32 (List.length ([] : Hs)) (fl ([] : Hs))) (row_nil _ _ _) rfl).perm (List.Perm.swap _ _ _)).closeS
        refine qE ?_
        refine qD ?_
        refine WL.ex rfl rfl rfl (Ex.mkf (f' := []) (c' := [.pointer (some ⟨g3, 0, none⟩), .pointer (some ⟨g4, 0, none⟩), .pointer (some ⟨gB, 0, none⟩)]) rfl rfl) ?_
        refine qB ?_
        refine qE ?_
        refine WC.seq ?_
        refine WC.draw (Keep nof w38.drew) [0, 1, 3, 5] (.one 2 0 (.one 4 0 (.two 0 (.two 1 (.one 3 2 (.one 5 2 .nil)) 3 (.one 1 2 (.one 5 2 .nil))) 3 (.one 0 2 (.one 1 2 (.one 5 2 .nil)))))) mixed (by kernel_rfl) (by kernel_rfl) (by kernel_rfl) (HQ.then_ HQ.body) ?_
        obtain ⟨w41, hw41⟩ : ∃ v, v = w38.drew := ⟨_, rfl⟩
        have D41 : Keep nof w38 w41 := by rw [hw41]; exact Keep.drew _ _
        have M41 := M38.step D41
        rw [← hw41]; clear hw41
        refine WP.p rfl rfl rfl rfl (fun _ => Ex.fa fl72_0 rfl) ?_
        refine qC ?_
        refine WP.two ?_ ?_
        · skip
          refine WP.a rfl rfl rfl rfl ((Ex.load ty68 rfl (M41.cell (i := 4) rfl rfl)).ac) ?_; rintro v44 w44 ⟨rfl, rfl⟩; refine .inl ⟨rfl, Keep nof w44, ?_⟩
          refine WP.two ?_ ?_
          · skip
            refine WP.a rfl rfl rfl rfl (Ac.call rfl Tryd.func64 nm64 rfl (tDepth_ok w44 gt gl ge d vs (lvOf dNode e0 d ls) (TreeS.of (Res.keep0 hTr M41.keep) (lvOf_len _ _)) hd)) ?_; rintro v45 w45 ⟨rfl, K45⟩; refine .inl ⟨rfl, Keep nof w45, ?_⟩
            have M45 := M41.step K45
            refine WP.a rfl rfl rfl rfl ((Ex.load ty67 rfl (blk_cell (l := [.slice (some ⟨g, 0, none⟩) zs.length c2, .slice none 0 0]) (M45.get (i := 0) rfl).1 rfl)).ac) ?_; rintro v46 w46 ⟨rfl, rfl⟩; refine .inl ⟨rfl, Keep nof w46, ?_⟩
            refine WP.a rfl rfl rfl rfl (Ac.call rfl Tryd.func63 nm63 rfl ((mclimb_ok (flM fun l i => (tNode d ls n l i).1) fpM (fun s : Value × Hs => sep (blk gB [.slice (some ⟨g, 0, none⟩) zs.length c2, s.1] 72) (row s.1 31 32 (List.length s.2) (fl s.2))) (fun s => s.2) w46 (some ⟨g, 0, none⟩) c2 d zs (.func (.func 62) #[] #[.pointer (some ⟨g3, 0, none⟩), .pointer (some ⟨g4, 0, none⟩), .pointer (some ⟨gB, 0, none⟩)]) (.func (.func 65) #[] #[]) (.slice none 0 0, []) (M45.get (i := 0) rfl) (ub_rdv (M45.get (i := 1) rfl)) (fun b hb => by cases hb; exact M45.apart (i := 1) (j := 0) rfl rfl (by decide) g (by simp [ub, blk])) hd (by omega) (by omega) (rise_lt hri hx (by decide)) List.length rfl (fun t l i t2 h => by obtain rfl := Option.some.inj h; simp) (fun _ _ _ => Nat.le_refl _) (fun s W l i hsz hl hi K h => ⟨_, _, [], [.pointer (some ⟨g3, 0, none⟩), .pointer (some ⟨g4, 0, none⟩), .pointer (some ⟨gB, 0, none⟩)], rfl, Tryd.func62, by kernel_rfl, rfl, (make1_ok W g3 g4 gB gt gl ge d vs ls s.2 _ s.1 n l i h (K.cell (M45.cell (i := 4) rfl rfl) (M45.apart (i := 4) (j := 0) rfl rfl (by decide) g3 (by simp [blk]))) (K.cell (M45.cell (i := 3) rfl rfl) (M45.apart (i := 3) (j := 0) rfl rfl (by decide) g4 (by simp [blk]))) (TreeS.of (old_sat M45 (i := 0) rfl hTr K) (lvOf_len _ _)) (ES.of (old_sat M45 (i := 0) rfl hE K)) hls hn (by omega) hi hd ((hT.keep M45.keep).keepF K (M45.tabF hT 0 rfl)) (by omega)).mono fun u W' hh => by obtain ⟨v2, h5, h6⟩ := hh; exact ⟨(v2, _), true, h5, h6, rfl⟩⟩) (fun s W i b K h => ⟨_, _, [], [], rfl, Tryd.func65, by kernel_rfl, rfl, (make2_ok W i b).mono fun u W' hh => ⟨s, ⟨hh.any, Res.keep0 h hh, fun b hb => .inl hb⟩, rfl⟩⟩)))) ?_; rintro v47 w47 ⟨s1, b1, rfl, T47, hcf⟩; refine .inl ⟨rfl, Keep nof w47, ?_⟩
            have M47 := M45.turned (i := 0) rfl T47
            try dsimp only [List.set] at M47
            obtain ⟨sv, sl⟩ := s1
            have hsl : sl = sibs (fun l i => (tNode d ls n l i).1) d 0 zs := by
              rw [climb_sib] at hcf
              cases b1 with
              | true => exact (Option.some.inj hcf).symm
              | false => cases hcf
            have M47 := M47.openS
            try dsimp only at M47
            obtain ⟨AN, cN, rfl⟩ := own_slice (M47.get (i := 1) rfl)
            refine WP.nil ?_
            refine WX.next ?_
            refine qD ?_
            refine WL.ex rfl rfl rfl (Ex.loadA ty72 rfl (l := [.slice (some ⟨g, 0, none⟩) zs.length c2, (.slice AN (List.length sl) cN)]) rfl (M47.rdw (i := 0) rfl)) ?_
            refine WL.ac0 rfl rfl (Ac.stA M47 ty72 rfl rfl (vs := [.slice (some ⟨g, 0, none⟩) zs.length c2, (.slice AN (List.length sl) cN)]) rfl rfl (by intro u hu; simp at hu; rcases hu with rfl | rfl <;> rfl) (i := 3) rfl (by simp)) ?_; rintro v49 w49 ⟨K49, M49⟩
            try dsimp only [List.set] at M49
            try dsimp only [List.set] at M49
            rw [splice_all _ _ (by simp)] at M49
            refine qB ?_
            refine qE ?_
            refine WC.ret ?_
            refine WX.retn rfl (.cell rfl (run_loadVarA ty72 (by rfl) (M49.rdw (i := 3) rfl)) (.tmp rfl .nil)) rfl ?_
            have Mr := mem_blkrow M49 (i := 2) rfl (c := c2) (n := zs.length) (sz := 1) (by simp; omega) (by omega) hcm
            try dsimp only [List.set] at Mr
            rw [show (u64V zs ++ tl).take (zs.length * 1) = u64V zs by rw [Nat.mul_one, List.take_append_of_le_length (by simp), List.take_of_length_le (by simp)]] at Mr
            have Mq : Mem w w49 nof [row (.slice (some ⟨g, 0, none⟩) zs.length c2) 23 1 (List.length zs) (u64V zs), row (.slice AN (List.length sl) cN) 31 32 (List.length sl) (fl sl)] := Mr.pick [2, 1] (by decide) rfl
            exact ⟨_, _, 0, zs, sl, rfl, Mq.closeS.toNew, by rw [if_neg hw, if_neg hl0x, if_neg hmx]; exact ⟨rfl, hri, hsl⟩⟩
          · skip
            refine WP.a rfl rfl rfl rfl ((Ex.load ty67 rfl (blk_cell (l := [.slice (some ⟨g, 0, none⟩) zs.length c2, .slice none 0 0]) (M41.get (i := 0) rfl).1 rfl)).ac) ?_; rintro v51 w51 ⟨rfl, rfl⟩; refine .inl ⟨rfl, Keep nof w51, ?_⟩
            refine WP.a rfl rfl rfl rfl (Ac.call rfl Tryd.func64 nm64 rfl (tDepth_ok w51 gt gl ge d vs (lvOf dNode e0 d ls) (TreeS.of (Res.keep0 hTr M41.keep) (lvOf_len _ _)) hd)) ?_; rintro v52 w52 ⟨rfl, K52⟩; refine .inl ⟨rfl, Keep nof w52, ?_⟩
            have M52 := M41.step K52
            refine WP.a rfl rfl rfl rfl (Ac.call rfl Tryd.func63 nm63 rfl ((mclimb_ok (flM fun l i => (tNode d ls n l i).1) fpM (fun s : Value × Hs => sep (blk gB [.slice (some ⟨g, 0, none⟩) zs.length c2, s.1] 72) (row s.1 31 32 (List.length s.2) (fl s.2))) (fun s => s.2) w52 (some ⟨g, 0, none⟩) c2 d zs (.func (.func 62) #[] #[.pointer (some ⟨g3, 0, none⟩), .pointer (some ⟨g4, 0, none⟩), .pointer (some ⟨gB, 0, none⟩)]) (.func (.func 65) #[] #[]) (.slice none 0 0, []) (M52.get (i := 0) rfl) (ub_rdv (M52.get (i := 1) rfl)) (fun b hb => by cases hb; exact M52.apart (i := 1) (j := 0) rfl rfl (by decide) g (by simp [ub, blk])) hd (by omega) (by omega) (rise_lt hri hx (by decide)) List.length rfl (fun t l i t2 h => by obtain rfl := Option.some.inj h; simp) (fun _ _ _ => Nat.le_refl _) (fun s W l i hsz hl hi K h => ⟨_, _, [], [.pointer (some ⟨g3, 0, none⟩), .pointer (some ⟨g4, 0, none⟩), .pointer (some ⟨gB, 0, none⟩)], rfl, Tryd.func62, by kernel_rfl, rfl, (make1_ok W g3 g4 gB gt gl ge d vs ls s.2 _ s.1 n l i h (K.cell (M52.cell (i := 4) rfl rfl) (M52.apart (i := 4) (j := 0) rfl rfl (by decide) g3 (by simp [blk]))) (K.cell (M52.cell (i := 3) rfl rfl) (M52.apart (i := 3) (j := 0) rfl rfl (by decide) g4 (by simp [blk]))) (TreeS.of (old_sat M52 (i := 0) rfl hTr K) (lvOf_len _ _)) (ES.of (old_sat M52 (i := 0) rfl hE K)) hls hn (by omega) hi hd ((hT.keep M52.keep).keepF K (M52.tabF hT 0 rfl)) (by omega)).mono fun u W' hh => by obtain ⟨v2, h5, h6⟩ := hh; exact ⟨(v2, _), true, h5, h6, rfl⟩⟩) (fun s W i b K h => ⟨_, _, [], [], rfl, Tryd.func65, by kernel_rfl, rfl, (make2_ok W i b).mono fun u W' hh => ⟨s, ⟨hh.any, Res.keep0 h hh, fun b hb => .inl hb⟩, rfl⟩⟩)))) ?_; rintro v53 w53 ⟨s1, b1, rfl, T53, hcf⟩; refine .inl ⟨rfl, Keep nof w53, ?_⟩
            have M53 := M52.turned (i := 0) rfl T53
            try dsimp only [List.set] at M53
            obtain ⟨sv, sl⟩ := s1
            have hsl : sl = sibs (fun l i => (tNode d ls n l i).1) d 0 zs := by
              rw [climb_sib] at hcf
              cases b1 with
              | true => exact (Option.some.inj hcf).symm
              | false => cases hcf
            have M53 := M53.openS
            try dsimp only at M53
            obtain ⟨AN, cN, rfl⟩ := own_slice (M53.get (i := 1) rfl)
            refine WP.nil ?_
            refine WX.next ?_
            refine qD ?_
            refine WL.ex rfl rfl rfl (Ex.loadA ty72 rfl (l := [.slice (some ⟨g, 0, none⟩) zs.length c2, (.slice AN (List.length sl) cN)]) rfl (M53.rdw (i := 0) rfl)) ?_
            refine WL.ac0 rfl rfl (Ac.stA M53 ty72 rfl rfl (vs := [.slice (some ⟨g, 0, none⟩) zs.length c2, (.slice AN (List.length sl) cN)]) rfl rfl (by intro u hu; simp at hu; rcases hu with rfl | rfl <;> rfl) (i := 3) rfl (by simp)) ?_; rintro v55 w55 ⟨K55, M55⟩
            try dsimp only [List.set] at M55
            try dsimp only [List.set] at M55
            rw [splice_all _ _ (by simp)] at M55
            refine qB ?_
            refine qE ?_
            refine WC.ret ?_
            refine WX.retn rfl (.cell rfl (run_loadVarA ty72 (by rfl) (M55.rdw (i := 3) rfl)) (.tmp rfl .nil)) rfl ?_
            have Mr := mem_blkrow M55 (i := 2) rfl (c := c2) (n := zs.length) (sz := 1) (by simp; omega) (by omega) hcm
            try dsimp only [List.set] at Mr
            rw [show (u64V zs ++ tl).take (zs.length * 1) = u64V zs by rw [Nat.mul_one, List.take_append_of_le_length (by simp), List.take_of_length_le (by simp)]] at Mr
            have Mq : Mem w w55 nof [row (.slice (some ⟨g, 0, none⟩) zs.length c2) 23 1 (List.length zs) (u64V zs), row (.slice AN (List.length sl) cN) 31 32 (List.length sl) (fl sl)] := Mr.pick [2, 1] (by decide) rfl
            exact ⟨_, _, 0, zs, sl, rfl, Mq.closeS.toNew, by rw [if_neg hw, if_neg hl0x, if_neg hmx]; exact ⟨rfl, hri, hsl⟩⟩
        · skip
          refine WP.a rfl rfl rfl rfl ((Ex.load ty67 rfl (blk_cell (l := [.slice (some ⟨g, 0, none⟩) zs.length c2, .slice none 0 0]) (M41.get (i := 0) rfl).1 rfl)).ac) ?_; rintro v57 w57 ⟨rfl, rfl⟩; refine .inl ⟨rfl, Keep nof w57, ?_⟩
          refine WP.a rfl rfl rfl rfl ((Ex.load ty68 rfl (M41.cell (i := 4) rfl rfl)).ac) ?_; rintro v58 w58 ⟨rfl, rfl⟩; refine .inl ⟨rfl, Keep nof w58, ?_⟩
          refine WP.a rfl rfl rfl rfl (Ac.call rfl Tryd.func64 nm64 rfl (tDepth_ok w58 gt gl ge d vs (lvOf dNode e0 d ls) (TreeS.of (Res.keep0 hTr M41.keep) (lvOf_len _ _)) hd)) ?_; rintro v59 w59 ⟨rfl, K59⟩; refine .inl ⟨rfl, Keep nof w59, ?_⟩
          have M59 := M41.step K59
          refine WP.a rfl rfl rfl rfl (Ac.call rfl Tryd.func63 nm63 rfl ((mclimb_ok (flM fun l i => (tNode d ls n l i).1) fpM (fun s : Value × Hs => sep (blk gB [.slice (some ⟨g, 0, none⟩) zs.length c2, s.1] 72) (row s.1 31 32 (List.length s.2) (fl s.2))) (fun s => s.2) w59 (some ⟨g, 0, none⟩) c2 d zs (.func (.func 62) #[] #[.pointer (some ⟨g3, 0, none⟩), .pointer (some ⟨g4, 0, none⟩), .pointer (some ⟨gB, 0, none⟩)]) (.func (.func 65) #[] #[]) (.slice none 0 0, []) (M59.get (i := 0) rfl) (ub_rdv (M59.get (i := 1) rfl)) (fun b hb => by cases hb; exact M59.apart (i := 1) (j := 0) rfl rfl (by decide) g (by simp [ub, blk])) hd (by omega) (by omega) (rise_lt hri hx (by decide)) List.length rfl (fun t l i t2 h => by obtain rfl := Option.some.inj h; simp) (fun _ _ _ => Nat.le_refl _) (fun s W l i hsz hl hi K h => ⟨_, _, [], [.pointer (some ⟨g3, 0, none⟩), .pointer (some ⟨g4, 0, none⟩), .pointer (some ⟨gB, 0, none⟩)], rfl, Tryd.func62, by kernel_rfl, rfl, (make1_ok W g3 g4 gB gt gl ge d vs ls s.2 _ s.1 n l i h (K.cell (M59.cell (i := 4) rfl rfl) (M59.apart (i := 4) (j := 0) rfl rfl (by decide) g3 (by simp [blk]))) (K.cell (M59.cell (i := 3) rfl rfl) (M59.apart (i := 3) (j := 0) rfl rfl (by decide) g4 (by simp [blk]))) (TreeS.of (old_sat M59 (i := 0) rfl hTr K) (lvOf_len _ _)) (ES.of (old_sat M59 (i := 0) rfl hE K)) hls hn (by omega) hi hd ((hT.keep M59.keep).keepF K (M59.tabF hT 0 rfl)) (by omega)).mono fun u W' hh => by obtain ⟨v2, h5, h6⟩ := hh; exact ⟨(v2, _), true, h5, h6, rfl⟩⟩) (fun s W i b K h => ⟨_, _, [], [], rfl, Tryd.func65, by kernel_rfl, rfl, (make2_ok W i b).mono fun u W' hh => ⟨s, ⟨hh.any, Res.keep0 h hh, fun b hb => .inl hb⟩, rfl⟩⟩)))) ?_; rintro v60 w60 ⟨s1, b1, rfl, T60, hcf⟩; refine .inl ⟨rfl, Keep nof w60, ?_⟩
          have M60 := M59.turned (i := 0) rfl T60
          try dsimp only [List.set] at M60
          obtain ⟨sv, sl⟩ := s1
          have hsl : sl = sibs (fun l i => (tNode d ls n l i).1) d 0 zs := by
            rw [climb_sib] at hcf
            cases b1 with
            | true => exact (Option.some.inj hcf).symm
            | false => cases hcf
          have M60 := M60.openS
          try dsimp only at M60
          obtain ⟨AN, cN, rfl⟩ := own_slice (M60.get (i := 1) rfl)
          refine WP.nil ?_
          refine WX.next ?_
          refine qD ?_
          refine WL.ex rfl rfl rfl (Ex.loadA ty72 rfl (l := [.slice (some ⟨g, 0, none⟩) zs.length c2, (.slice AN (List.length sl) cN)]) rfl (M60.rdw (i := 0) rfl)) ?_
          refine WL.ac0 rfl rfl (Ac.stA M60 ty72 rfl rfl (vs := [.slice (some ⟨g, 0, none⟩) zs.length c2, (.slice AN (List.length sl) cN)]) rfl rfl (by intro u hu; simp at hu; rcases hu with rfl | rfl <;> rfl) (i := 3) rfl (by simp)) ?_; rintro v62 w62 ⟨K62, M62⟩
          try dsimp only [List.set] at M62
          try dsimp only [List.set] at M62
          rw [splice_all _ _ (by simp)] at M62
          refine qB ?_
          refine qE ?_
          refine WC.ret ?_
          refine WX.retn rfl (.cell rfl (run_loadVarA ty72 (by rfl) (M62.rdw (i := 3) rfl)) (.tmp rfl .nil)) rfl ?_
          have Mr := mem_blkrow M62 (i := 2) rfl (c := c2) (n := zs.length) (sz := 1) (by simp; omega) (by omega) hcm
          try dsimp only [List.set] at Mr
          rw [show (u64V zs ++ tl).take (zs.length * 1) = u64V zs by rw [Nat.mul_one, List.take_append_of_le_length (by simp), List.take_of_length_le (by simp)]] at Mr
          have Mq : Mem w w62 nof [row (.slice (some ⟨g, 0, none⟩) zs.length c2) 23 1 (List.length zs) (u64V zs), row (.slice AN (List.length sl) cN) 31 32 (List.length sl) (fl sl)] := Mr.pick [2, 1] (by decide) rfl
          exact ⟨_, _, 0, zs, sl, rfl, Mq.closeS.toNew, by rw [if_neg hw, if_neg hl0x, if_neg hmx]; exact ⟨rfl, hri, hsl⟩⟩

end Go.Proofs.YtchmjpdkonfifaaDoor

set_option linter.unusedVariables false
set_option linter.unusedSimpArgs false
namespace Go.Proofs.YtchmjpdkonfifaaDoor
open Go.Sx Go.RowKit
attribute [local irreducible] Ac Ex WL WC WX WP Gives sha

def bes (i : Nat) : Nat := if i % 2 = 0 then i + 1 else i - 1
theorem bes_xor (i : Nat) : bes i = i ^^^ 1 := by
  unfold bes
  apply Nat.eq_of_testBit_eq
  intro k
  rw [Nat.testBit_xor]
  cases k with
  | zero =>
    by_cases h : i % 2 = 0
    · rw [if_pos h, Nat.testBit_zero, Nat.testBit_zero, show decide ((i + 1) % 2 = 1) = true from decide_eq_true (by omega), show decide (i % 2 = 1) = false from decide_eq_false (by omega)]; rfl
    · rw [if_neg h, Nat.testBit_zero, Nat.testBit_zero, show decide ((i - 1) % 2 = 1) = false from decide_eq_false (by omega), show decide (i % 2 = 1) = true from decide_eq_true (by omega)]; rfl
  | succ k =>
    have e1 : Nat.testBit 1 (k + 1) = false := by simp [Nat.testBit_succ]
    rw [e1, Bool.xor_false, Nat.testBit_succ, Nat.testBit_succ]
    by_cases h : i % 2 = 0
    · rw [if_pos h, show (i + 1) / 2 = i / 2 by omega]
    · rw [if_neg h, show (i - 1) / 2 = i / 2 by omega]

/- sponsion/sponsionref33.beside -/
theorem bes_ok (w : World) (i : Nat) (hi : i < 18446744073709551616) : Gives Tryd.prog 69 #[.int .u64 (i : Int)] w fun u w1 => u = .int .u64 (bes i : Int) ∧ Keep nof w w1 := by
  have M0 := Mem.start w nof
  refine Gives.enter (n := 10) Tryd.func69 rfl Tryd.ntmps69 rfl (env := [(0, .int .u64 (i : Int))]) rfl ?_
  refine qD ?_
  refine qB ?_
  refine qE ?_
  refine WC.seq ?_
  refine qD ?_
  refine qA ?_
  refine WL.ex rfl rfl rfl (Ex.rem rfl rfl (by omega) (c := ((i % 2 : Nat) : Int)) (by rw [Int.tmod_eq_emod_of_nonneg (by omega)]; omega)) ?_
  refine WL.ex rfl rfl rfl (Ex.eqI rfl rfl) ?_
  refine qE ?_
  refine WC.cond_dec rfl (fun h5 => ?_) (fun h5 => ?_)
  · have hb : bes i = i + 1 := if_pos (by omega)
    refine qD ?_
    refine qA ?_
    refine WL.ex rfl rfl rfl (Ex.add rfl rfl (c := ((bes i : Nat) : Int)) (by rw [hb, show (i : Int) + 1 = ((i + 1 : Nat) : Int) by omega]; exact u64w_lt _ (by omega))) ?_
    refine qB ?_
    refine qE ?_
    refine WC.ret ?_
    refine WX.ret_then (?_)
    refine WX.ret1 rfl rfl ?_
    exact ⟨rfl, M0.keep⟩
  · have hb : bes i = i - 1 := if_neg (by omega)
    refine WC.skip ?_
    refine WX.next ?_
    refine qD ?_
    refine qA ?_
    refine WL.ex rfl rfl rfl (Ex.sub rfl rfl (c := ((bes i : Nat) : Int)) (by rw [hb, show (i : Int) - 1 = ((i - 1 : Nat) : Int) by omega]; exact u64w_lt _ (by omega))) ?_
    refine qB ?_
    refine qE ?_
    refine WC.ret ?_
    refine WX.ret1 rfl rfl ?_
    exact ⟨rfl, M0.keep⟩

/- sponsion/sponsionlaw33.same -/
theorem same_ok (w : World) (A B : Option Addr) (c d : Nat) (a b : Hs) (hr : Rd w A (fl a)) (hr2 : Rd w B (fl b)) (hoa : ∀ h ∈ a, H32 h) (hob : ∀ h ∈ b, H32 h) (hb1 : a.length ≤ 100000) (hb2 : b.length ≤ 100000) :
    Gives Tryd.prog 34 #[.slice A (List.length a) c, .slice B (List.length b) d] w fun u w1 => u = .bool (decide (a = b)) ∧ Keep nof w w1 := by
  have M0 := Mem.start w nof
  refine Gives.enter (n := 26) Tryd.func34 rfl Tryd.ntmps34 rfl (env := [(0, .slice A (List.length a) c), (1, .slice B (List.length b) d)]) rfl ?_
  refine qD ?_
  refine qB ?_
  refine qE ?_
  refine WC.seq ?_
  refine qD ?_
  refine qA ?_
  refine WL.ex rfl rfl rfl (Ex.len Tryd.underlying39 rfl) ?_
  refine qA ?_
  refine WL.ex rfl rfl rfl (Ex.len Tryd.underlying39 rfl) ?_
  refine WL.ex rfl rfl rfl (Ex.neI rfl rfl) ?_
  refine qE ?_
  refine WC.cond rfl (fun h10 => ?_) (fun h10 => ?_)
  · have hne : a ≠ b := fun e => by subst e; simp at h10
    refine qD ?_
    refine qB ?_
    refine qE ?_
    refine WC.ret ?_
    refine WX.ret_then (?_)
    refine WX.ret1 rfl rfl ?_
    first | rw [decide_eq_false hne] | rw [decide_eq_true hyy]
    exact ⟨rfl, M0.keep⟩
  · have hll : a.length = b.length := by
      have h11 : (a.length : Int) = (b.length : Int) := by simpa using h10
      omega
    refine WC.skip ?_
    refine WX.next ?_
    refine WC.seq ?_
    refine qD ?_
    refine qA ?_
    refine WL.ex rfl rfl rfl (Ex.len Tryd.underlying39 rfl) ?_
    refine qA ?_
    refine qE ?_
    refine WC.block ?_
    refine WC.loop (σ := Nat) (fun i => [(0, .slice A (List.length a) c), (1, .slice B (List.length b) d), (12, .int .i64 (List.length a : Int)), (13, .int .i64 (i : Int))]) (fun i wr => i ≤ List.length a ∧ (∀ k, k < i → a[k]? = b[k]?) ∧ Mem w wr nof []) (fun i => List.length a - i) (0) ?_ (.cons rfl (.cons rfl (.cons rfl (.cons rfl (.nil))))) ?_
    · exact ⟨by omega, (fun k h => by omega), M0⟩
    rintro i w11 ⟨hi, heq, M11⟩
    refine qD ?_
    refine WL.ex rfl rfl rfl (Ex.lss rfl rfl) ?_
    refine qE ?_
    refine WC.seq ?_
    refine WC.cond_dec rfl (fun hc14 => ?_) (fun hc14 => ?_)
    · obtain ⟨pa, hia⟩ : ∃ p, a[i]? = some p := ⟨_, List.getElem?_eq_getElem (by omega)⟩
      obtain ⟨pb, hib⟩ : ∃ p, b[i]? = some p := ⟨_, List.getElem?_eq_getElem (by omega)⟩
      have hpa := hoa pa (List.mem_of_getElem? hia)
      have hpb := hob pb (List.mem_of_getElem? hib)
      obtain ⟨b0, o0, hA⟩ := Rd.flat_plain (f := bytesV) hr (List.mem_of_getElem? hia) (by rw [h32_len hpa]; omega)
      subst hA
      obtain ⟨b1, o1, hB⟩ := Rd.flat_plain (f := bytesV) hr2 (List.mem_of_getElem? hib) (by rw [h32_len hpb]; omega)
      subst hB
      refine WC.skip ?_
      refine WX.next ?_
      refine WC.seq ?_
      refine WC.block ?_
      refine qD ?_
      refine qA ?_
      refine qB ?_
      refine qE ?_
      refine WC.seq ?_
      refine WC.draw (Keep nof w11.drew) [] (.one 0 0 (.one 1 0 (.one 2 0 (.one 4 0 (.one 5 0 (.one 6 0 (.one 3 1 (.one 7 1 (.one 8 0 .nil))))))))) mixed (by kernel_rfl) (by kernel_rfl) (by kernel_rfl) (HQ.then_ (HQ.block (HQ.then_ (HQ.then_ (HQ.block (HQ.then_ HQ.body)))))) ?_
      obtain ⟨w15, hw15⟩ : ∃ v, v = w11.drew := ⟨_, rfl⟩
      have D15 : Keep nof w11 w15 := by rw [hw15]; exact Keep.drew _ _
      have M15 := M11.step D15
      rw [← hw15]; clear hw15
      refine qC ?_
      refine qC ?_
      refine WP.p rfl rfl rfl rfl (fun _ => Ex.ia Tryd.underlying39 sz31 rfl rfl ⟨by omega, by omega⟩) ?_
      refine qC ?_
      refine qC ?_
      refine WP.p rfl rfl rfl rfl (fun _ => Ex.ia Tryd.underlying39 sz31 rfl rfl ⟨by omega, by omega⟩) ?_
      refine WP.q (Keep.refl _ _) rfl rfl rfl rfl (fun w' hS => Ex.loadA ty31 rfl (l := bytesV pa) (h32_len hpa) (Rd.flat (f := bytesV) ((M15.rd hr).keep0 hS) (i := (i : Int).toNat) (fun t ht => h32_len (hoa t ht)) (by simpa using hia))) ?_
      refine WP.q (Keep.refl _ _) rfl rfl rfl rfl (fun w' hS => Ex.loadA ty31 rfl (l := bytesV pb) (h32_len hpb) (Rd.flat (f := bytesV) ((M15.rd hr2).keep0 hS) (i := (i : Int).toNat) (fun t ht => h32_len (hob t ht)) (by simpa using hib))) ?_
      refine WP.p rfl rfl rfl rfl (fun _ => Ex.neA rfl rfl (eqHash w hpa hpb)) ?_
      refine WP.nil ?_
      refine WX.next ?_
      refine WC.cond rfl (fun h24 => ?_) (fun h24 => ?_)
      · have hne : a ≠ b := fun e => by
          subst e
          rw [hia] at hib
          obtain rfl := Option.some.inj hib
          simp at h24
        refine qD ?_
        refine qB ?_
        refine qE ?_
        refine WC.ret ?_
        refine WX.ret_block (WX.ret_then (WX.ret_then (WX.ret_block (WX.ret_then (?_)))))
        refine WX.ret1 rfl rfl ?_
        first | rw [decide_eq_false hne] | rw [decide_eq_true hyy]
        exact ⟨rfl, M15.keep⟩
      · have hkk : pa = pb := by simpa using h24
        refine WC.skip ?_
        refine WX.normal_block (WX.next (?_))
        refine WC.region ?_
        refine WL.ex rfl rfl rfl (Ex.add rfl rfl (i64w _ (by omega) (by omega))) ?_
        refine qA ?_
        refine WL.nil ?_
        refine WX.again (i + 1) ?_ ?_ (.cons rfl (.cons rfl (.cons rfl (.cons rfl (.nil)))))
        · omega
        · exact ⟨by omega, (fun k h => by
            by_cases e : k = i
            · rw [e, hia, hib, hkk]
            · exact heq k (by omega)), M15⟩
    · have hyy : a = b := List.ext_getElem? (fun k => by
        by_cases hk : k < a.length
        · exact heq k (by omega)
        · rw [List.getElem?_eq_none (by omega), List.getElem?_eq_none (by omega)])
      refine WC.exit ?_
      refine WX.exit_then (WX.exit_then (WX.exit_block (WX.next (?_))))
      refine qD ?_
      refine qB ?_
      refine qE ?_
      refine WC.ret ?_
      refine WX.ret1 rfl rfl ?_
      first | rw [decide_eq_false hne] | rw [decide_eq_true hyy]
      exact ⟨rfl, M11.keep⟩

end Go.Proofs.YtchmjpdkonfifaaDoor

set_option linter.unusedVariables false
set_option linter.unusedSimpArgs false
namespace Go.Proofs.YtchmjpdkonfifaaDoor
open Go.Sx Go.RowKit
attribute [local irreducible] Ac Ex WL WC WX WP Gives sha

/-- One number put into a rising row: what is made of the first p. -/
structure RsI (out : List Nat) (i p : Nat) (nx : List Nat) (dn : Bool) : Prop where
  si : SI nx
  lt : ∀ v ∈ nx, ∀ k, p ≤ k → k < out.length → v < gv out k
  mem : ∀ v, v ∈ nx ↔ (∃ k, k < p ∧ gv out k = v) ∨ (dn = true ∧ v = i)
  no : dn = false → ∀ k, k < p → gv out k < i
theorem RsI.start (out : List Nat) (i : Nat) : RsI out i 0 [] false := ⟨fun a b h1 h2 => by simp at h2, fun v hv => by simp at hv, fun v => by simp, fun _ k h => by omega⟩
theorem si_snocm {l : List Nat} {x : Nat} (h : SI l) (hx : ∀ v ∈ l, v < x) : SI (l ++ [x]) := h.snoc fun k hk => hx _ (gv_mem hk)
theorem RsI.none_eq {out nx : List Nat} {i p : Nat} {dn : Bool} (h : RsI out i p nx dn) (hp : p < out.length) (e : gv out p ≤ i) : dn = false := by
  cases dn with
  | false => rfl
  | true =>
    have h1 := h.lt i ((h.mem i).2 (.inr ⟨rfl, rfl⟩)) p (Nat.le_refl _) hp
    omega
theorem RsI.eq {out nx : List Nat} {i p : Nat} {dn : Bool} (h : RsI out i p nx dn) (hs : SI out) (hp : p < out.length) (e : gv out p = i) : RsI out i (p + 1) (nx ++ [gv out p]) true := by
  have hd := h.none_eq hp (by omega)
  refine ⟨si_snocm h.si fun v hv => h.lt v hv p (Nat.le_refl _) hp, fun v hv k h1 h2 => ?_, fun v => ?_, fun h => by cases h⟩
  · rcases List.mem_append.1 hv with hv | hv
    · exact h.lt v hv k (by omega) h2
    · rw [List.mem_singleton.1 hv]; exact hs p k (by omega) h2
  · rw [List.mem_append, h.mem v, List.mem_singleton, hd]
    constructor
    · rintro ((⟨k, hk, rfl⟩ | ⟨h1, _⟩) | rfl)
      · exact .inl ⟨k, by omega, rfl⟩
      · cases h1
      · exact .inr ⟨rfl, e⟩
    · rintro (⟨k, hk, rfl⟩ | ⟨_, rfl⟩)
      · by_cases e2 : k = p
        · rw [e2]; exact .inr rfl
        · exact .inl (.inl ⟨k, by omega, rfl⟩)
      · exact .inr e.symm
theorem RsI.ins {out nx : List Nat} {i p : Nat} (h : RsI out i p nx false) (hs : SI out) (hp : p < out.length) (e : i < gv out p) : RsI out i (p + 1) (nx ++ [i] ++ [gv out p]) true := by
  have hn : ∀ v ∈ nx, v < i := fun v hv => by
    rcases (h.mem v).1 hv with ⟨k, hk, rfl⟩ | ⟨h1, _⟩
    · exact h.no rfl k hk
    · cases h1
  refine ⟨si_snocm (si_snocm h.si hn) fun v hv => ?_, fun v hv k h1 h2 => ?_, fun v => ?_, fun h => by cases h⟩
  · rcases List.mem_append.1 hv with hv | hv
    · have := hn v hv; omega
    · rw [List.mem_singleton.1 hv]; exact e
  · have h3 := hs p k (by omega) h2
    rcases List.mem_append.1 hv with hv | hv
    · rcases List.mem_append.1 hv with hv | hv
      · exact h.lt v hv k (by omega) h2
      · rw [List.mem_singleton.1 hv]; omega
    · rw [List.mem_singleton.1 hv]; exact h3
  · rw [List.mem_append, List.mem_append, h.mem v, List.mem_singleton, List.mem_singleton]
    constructor
    · rintro (((⟨k, hk, rfl⟩ | ⟨h1, _⟩) | rfl) | rfl)
      · exact .inl ⟨k, by omega, rfl⟩
      · cases h1
      · exact .inr ⟨rfl, rfl⟩
      · exact .inl ⟨p, by omega, rfl⟩
    · rintro (⟨k, hk, rfl⟩ | ⟨_, rfl⟩)
      · by_cases e2 : k = p
        · rw [e2]; exact .inr rfl
        · exact .inl (.inl (.inl ⟨k, by omega, rfl⟩))
      · exact .inl (.inr rfl)
theorem RsI.go {out nx : List Nat} {i p : Nat} {dn : Bool} (h : RsI out i p nx dn) (hs : SI out) (hp : p < out.length) (e : dn = false → gv out p < i) : RsI out i (p + 1) (nx ++ [gv out p]) dn := by
  refine ⟨si_snocm h.si fun v hv => h.lt v hv p (Nat.le_refl _) hp, fun v hv k h1 h2 => ?_, fun v => ?_, fun hd k hk => ?_⟩
  · rcases List.mem_append.1 hv with hv | hv
    · exact h.lt v hv k (by omega) h2
    · rw [List.mem_singleton.1 hv]; exact hs p k (by omega) h2
  · rw [List.mem_append, h.mem v, List.mem_singleton]
    constructor
    · rintro ((⟨k, hk, rfl⟩ | h1) | rfl)
      · exact .inl ⟨k, by omega, rfl⟩
      · exact .inr h1
      · exact .inl ⟨p, by omega, rfl⟩
    · rintro (⟨k, hk, rfl⟩ | h1)
      · by_cases e2 : k = p
        · rw [e2]; exact .inr rfl
        · exact .inl (.inl ⟨k, by omega, rfl⟩)
      · exact .inl (.inr h1)
  · by_cases e2 : k = p
    · rw [e2]; exact e hd
    · exact h.no hd k (by omega)

theorem RsI.fin1 {out nx : List Nat} {i : Nat} (h : RsI out i out.length nx true) : SI nx ∧ ∀ v, v ∈ nx ↔ v ∈ out ∨ v = i :=
  ⟨h.si, fun v => by rw [h.mem v, mem_gv]; simp⟩
theorem RsI.fin0 {out nx : List Nat} {i : Nat} (h : RsI out i out.length nx false) : SI (nx ++ [i]) ∧ ∀ v, v ∈ nx ++ [i] ↔ v ∈ out ∨ v = i := by
  refine ⟨si_snocm h.si fun v hv => ?_, fun v => ?_⟩
  · rcases (h.mem v).1 hv with ⟨k, hk, rfl⟩ | ⟨h1, _⟩
    · exact h.no rfl k hk
    · cases h1
  · rw [List.mem_append, h.mem v, List.mem_singleton, mem_gv (l := out)]
    simp
theorem mem_lt_snoc {xs : List Nat} {m v : Nat} : (∃ k, k < m + 1 ∧ gv xs k = v) ↔ (∃ k, k < m ∧ gv xs k = v) ∨ v = gv xs m := by
  constructor
  · rintro ⟨k, hk, rfl⟩
    by_cases e : k = m
    · exact .inr (by rw [e])
    · exact .inl ⟨k, by omega, rfl⟩
  · rintro (⟨k, hk, rfl⟩ | rfl)
    · exact ⟨k, by omega, rfl⟩
    · exact ⟨m, by omega, rfl⟩

end Go.Proofs.YtchmjpdkonfifaaDoor

set_option linter.unusedVariables false
set_option linter.unusedSimpArgs false
namespace Go.Proofs.YtchmjpdkonfifaaDoor
open Go.Sx Go.RowKit
attribute [local irreducible] Ac Ex WL WC WX WP Gives sha

/- sponsion/sponsionref33.Rise -/
theorem rise33_ok (w : World) (A : Option Addr) (c : Nat) (xs : List Nat) (hr : Rd w A (u64V xs)) (hb : xs.length ≤ 50) :
    Gives Tryd.prog 32 #[.slice A xs.length c] w fun u w1 => ∃ zs, SI zs ∧ (∀ v, v ∈ zs ↔ v ∈ xs) ∧ zs.length ≤ xs.length ∧ New w w1 (row u 23 1 (List.length zs) (u64V zs)) := by
  have M0 := Mem.start w nof
  refine Gives.enter (n := 50) Tryd.func32 rfl Tryd.ntmps32 rfl (env := [(0, .slice A xs.length c)]) rfl ?_
  refine qD ?_
  refine qB ?_
  refine qE ?_
  refine qD ?_
  refine qB ?_
  refine qE ?_
  refine WC.seq ?_
  refine qD ?_
  refine qA ?_
  refine WL.ex rfl rfl rfl (Ex.len Tryd.underlying67 rfl) ?_
  refine qA ?_
  refine qE ?_
  refine WC.block ?_
  refine WC.loop (σ := Nat × Value × List Nat) (fun s => [(3, s.2.1), (10, .slice A xs.length c), (11, .int .i64 (xs.length : Int)), (12, .int .i64 (s.1 : Int))]) (fun s wr => s.1 ≤ xs.length ∧ SI s.2.2 ∧ (∀ x, x ∈ s.2.2 ↔ ∃ k, k < s.1 ∧ gv xs k = x) ∧ List.length s.2.2 ≤ s.1 ∧ Mem w wr nof [row s.2.1 23 1 (List.length s.2.2) (u64V s.2.2)]) (fun s => xs.length - s.1) (((0, .slice none 0 0, []) : Nat × Value × List Nat)) ?_ (.cons rfl (.cons rfl (.cons rfl (.cons rfl (.nil))))) ?_
  · exact ⟨by dsimp only; omega, (fun a b h1 h2 => by simp at h2), (fun x => by simp), by simp, (M0.free (r := row (.slice none 0 0) 23 1 0 []) (row_nil _ _ _) rfl)⟩
  rintro ⟨m, v, out⟩ w6 ⟨hm, hso, hme, hol, M6⟩
  dsimp only at hm hso hme hol M6
  refine WC.sub (env' := [(3, v), (10, .slice A xs.length c), (11, .int .i64 (xs.length : Int)), (12, .int .i64 (m : Int))]) (.cons rfl (.cons rfl (.cons rfl (.cons rfl (.nil))))) ?_
  refine qD ?_
  refine WL.ex rfl rfl rfl (Ex.lss rfl rfl) ?_
  refine qE ?_
  refine WC.seq ?_
  refine WC.cond_dec rfl (fun hc13 => ?_) (fun hc13 => ?_)
  · obtain ⟨b0, o0, hA, _⟩ := hr.plain (by simp; omega)
    have hr9 := hr
    rw [hA] at hr9
    refine WC.skip ?_
    refine WX.next ?_
    refine WC.seq ?_
    refine WC.block ?_
    refine qD ?_
    refine WL.ex rfl rfl rfl (Ex.ia Tryd.underlying67 sz23 (b := b0) (o := o0) (by rw [← hA]; rfl) rfl ⟨by omega, by omega⟩) ?_
    refine WL.ex rfl rfl rfl (Ex.load ty23 rfl (u64_at (M6.rd hr9) (k := m) (by omega) (by omega))) ?_
    refine qB ?_
    refine qE ?_
    refine qD ?_
    refine qB ?_
    refine qE ?_
    refine qD ?_
    refine qB ?_
    refine qE ?_
    refine WC.seq ?_
    refine qD ?_
    obtain ⟨AO, cO, rfl⟩ := own_slice (M6.get (i := 0) rfl)
    refine qA ?_
    refine WL.ex rfl rfl rfl (Ex.len Tryd.underlying67 rfl) ?_
    refine qA ?_
    refine qE ?_
    refine WC.block ?_
    refine WC.loop (σ := Nat × Value × List Nat × Bool) (fun s => [(5, .int .u64 (gv xs m : Int)), (6, s.2.1), (7, .bool s.2.2.2), (10, .slice A xs.length c), (11, .int .i64 (xs.length : Int)), (12, .int .i64 (m : Int)), (16, .slice AO (List.length out) cO), (17, .int .i64 ((List.length out : Nat) : Int)), (18, .int .i64 (s.1 : Int))]) (fun s wr => s.1 ≤ List.length out ∧ RsI out (gv xs m) s.1 s.2.2.1 s.2.2.2 ∧ List.length s.2.2.1 ≤ s.1 + s.2.2.2.toNat ∧ Mem w wr nof [row s.2.1 23 1 (List.length s.2.2.1) (u64V s.2.2.1), row (.slice AO (List.length out) cO) 23 1 (List.length out) (u64V out)]) (fun s => List.length out - s.1) (((0, .slice none 0 0, [], false) : Nat × Value × List Nat × Bool)) ?_ (.cons rfl (.cons rfl (.cons rfl (.cons rfl (.cons rfl (.cons rfl (.cons rfl (.cons rfl (.cons rfl (.nil)))))))))) ?_
    · exact ⟨by dsimp only; omega, .start _ _, by simp, (M6.free (r := row (.slice none 0 0) 23 1 0 []) (row_nil _ _ _) rfl)⟩
    rintro ⟨p, v2, nx, dn⟩ w16 ⟨hp, hrs, hnl, M16⟩
    dsimp only at hp hrs hnl M16
    refine WC.sub (env' := [(5, .int .u64 (gv xs m : Int)), (6, v2), (7, .bool dn), (10, .slice A xs.length c), (11, .int .i64 (xs.length : Int)), (12, .int .i64 (m : Int)), (16, .slice AO (List.length out) cO), (17, .int .i64 ((List.length out : Nat) : Int)), (18, .int .i64 (p : Int))]) (.cons rfl (.cons rfl (.cons rfl (.cons rfl (.cons rfl (.cons rfl (.cons rfl (.cons rfl (.cons rfl (.nil)))))))))) ?_
    refine qD ?_
    refine WL.ex rfl rfl rfl (Ex.lss rfl rfl) ?_
    refine qE ?_
    refine WC.seq ?_
    refine WC.cond_dec rfl (fun hc19 => ?_) (fun hc19 => ?_)
    · obtain ⟨gO, hAO⟩ := own_some (M16.get (i := 1) rfl) (by omega)
      have hro := M16.rdr (i := 1) rfl
      rw [hAO] at hro
      refine WC.skip ?_
      refine WX.next ?_
      refine WC.seq ?_
      refine WC.block ?_
      refine qD ?_
      refine WL.ex rfl rfl rfl (Ex.ia Tryd.underlying67 sz23 (b := gO) (o := 0) (by rw [← hAO]; rfl) rfl ⟨by omega, by omega⟩) ?_
      refine WL.ex rfl rfl rfl (Ex.load ty23 rfl (u64_at hro (k := p) (by omega) (by omega))) ?_
      refine qB ?_
      refine qE ?_
      refine WC.cut (σ := Bool) (fun d1 => [(5, .int .u64 (gv xs m : Int)), (6, v2), (7, .bool d1), (9, .int .u64 (gv out p : Int)), (10, .slice A xs.length c), (11, .int .i64 (xs.length : Int)), (12, .int .i64 (m : Int)), (16, .slice AO (List.length out) cO), (17, .int .i64 ((List.length out : Nat) : Int)), (18, .int .i64 (p : Int))]) (fun d1 wr => ((gv out p = gv xs m ∧ d1 = true) ∨ (gv out p ≠ gv xs m ∧ d1 = dn)) ∧ Mem w wr nof [row v2 23 1 (List.length nx) (u64V nx), row (.slice AO (List.length out) cO) 23 1 (List.length out) (u64V out)]) ?_ ?_
      ·
        refine qD ?_
        refine qA ?_
        refine qA ?_
        refine WL.ex rfl rfl rfl (Ex.eqI rfl rfl) ?_
        refine qE ?_
        refine WC.cond_dec rfl (fun h24 => ?_) (fun h24 => ?_)
        · skip
          refine WC.region ?_
          refine qB ?_
          refine WL.nil ?_
          refine WX.join (true) ?_ (.cons rfl (.cons rfl (.cons rfl (.cons rfl (.cons rfl (.cons rfl (.cons rfl (.cons rfl (.cons rfl (.cons rfl (.nil)))))))))))
          exact ⟨.inl ⟨by omega, rfl⟩, M16⟩
        · skip
          refine WC.skip ?_
          refine WX.join (dn) ?_ (.cons rfl (.cons rfl (.cons rfl (.cons rfl (.cons rfl (.cons rfl (.cons rfl (.cons rfl (.cons rfl (.cons rfl (.nil)))))))))))
          exact ⟨.inr ⟨by omega, rfl⟩, M16⟩
      · rintro d1 w25 ⟨hd1, M25⟩
        refine WC.cut (σ := Value × List Nat × Bool) (fun s => [(5, .int .u64 (gv xs m : Int)), (6, s.1), (7, .bool s.2.2), (9, .int .u64 (gv out p : Int)), (10, .slice A xs.length c), (11, .int .i64 (xs.length : Int)), (12, .int .i64 (m : Int)), (16, .slice AO (List.length out) cO), (17, .int .i64 ((List.length out : Nat) : Int)), (18, .int .i64 (p : Int))]) (fun s wr => RsI out (gv xs m) (p + 1) (s.2.1 ++ [gv out p]) s.2.2 ∧ List.length s.2.1 ≤ p + s.2.2.toNat ∧ Mem w wr nof [row s.1 23 1 (List.length s.2.1) (u64V s.2.1), row (.slice AO (List.length out) cO) 23 1 (List.length out) (u64V out)]) ?_ ?_
        ·
          refine qD ?_
          refine qA ?_
          refine qA ?_
          refine WL.ex rfl rfl rfl (Ex.gtr rfl rfl) ?_
          refine qA ?_
          by_cases hgt : ((gv xs m : Nat) : Int) < ((gv out p : Nat) : Int)
          · rw [decide_eq_true hgt]
            refine WL.yes rfl rfl rfl rfl ?_
            refine qA ?_
            refine WL.yes rfl rfl rfl rfl ?_
            refine WL.ex rfl rfl rfl (Ex.not rfl) ?_
            refine WL.ex rfl rfl rfl (Ex.pickT rfl rfl) ?_
            refine qE ?_
            refine WC.cond rfl (fun h31 => ?_) (fun h31 => ?_)
            · skip
              refine qD ?_
              have hdl := Bool.toNat_le dn
              refine qA ?_
              refine qA ?_
              refine WL.ac rfl rfl rfl (Ac.bs M25 (parts := [(0, .tmp 33)]) (l := u64V [gv xs m]) rfl rfl (LitS.one el67 rfl)) ?_; rintro v35 w35 ⟨gs13, rfl, hg35, K35, M35⟩
              refine WL.ac rfl rfl rfl (Ac.app M35 el67 rfl rfl (i := 1) rfl (by simp) (M35.rdw (i := 0) rfl) (u64V_one _) (by omega) (by unfold maxLen; omega)) ?_; rintro v36 w36 ⟨K36, M36⟩
              try dsimp only [List.set] at M36
              rw [← u64V_append, show List.length nx + 1 = List.length (nx ++ [gv xs m]) by simp] at M36
              obtain ⟨vq13, hvq13⟩ : ∃ q, q = v36 := ⟨_, rfl⟩
              rw [← hvq13] at M36 ⊢
              refine qB ?_
              refine qE ?_
              refine WC.region ?_
              refine qB ?_
              refine WL.nil ?_
              refine WX.join (((vq13, nx ++ [gv xs m], true) : Value × List Nat × Bool)) ?_ (.cons rfl (.cons rfl (.cons rfl (.cons rfl (.cons rfl (.cons rfl (.cons rfl (.cons rfl (.cons rfl (.cons rfl (.nil)))))))))))
              have hd1f : d1 = false := by simpa using h31
              have hdn : dn = false := by
                rcases hd1 with ⟨h1, _⟩ | ⟨_, h2⟩
                · omega
                · rw [← h2]; exact hd1f
              subst hdn
              exact ⟨hrs.ins hso (by omega) (by omega), (by have h5 := hnl; simpa using h5), (Mem.sub M36 (.cons _ (.refl _)))⟩
            · skip
              refine WC.skip ?_
              refine WX.join (((v2, nx, d1) : Value × List Nat × Bool)) ?_ (.cons rfl (.cons rfl (.cons rfl (.cons rfl (.cons rfl (.cons rfl (.cons rfl (.cons rfl (.cons rfl (.cons rfl (.nil)))))))))))
              have hq : RsI out (gv xs m) (p + 1) (nx ++ [gv out p]) d1 := by
                rcases hd1 with ⟨h1, h2⟩ | ⟨h1, h2⟩
                · subst h2; exact hrs.eq hso (by omega) h1
                · subst h2; exact hrs.go hso (by omega) (fun e => by subst e; first | omega | (simp at h31 <;> omega))
              have hq2 : List.length nx ≤ p + d1.toNat := by
                rcases hd1 with ⟨h1, h2⟩ | ⟨h1, h2⟩
                · have h6 := hrs.none_eq (by omega) (by omega)
                  subst h6
                  simp at hnl
                  omega
                · subst h2; exact hnl
              exact ⟨hq, hq2, M25⟩
          · rw [decide_eq_false hgt]
            refine WL.no rfl rfl rfl rfl rfl rfl ?_
            refine WL.no rfl rfl rfl rfl rfl rfl ?_
            refine WL.ex rfl rfl rfl (Ex.pickF rfl rfl) ?_
            refine qE ?_
            refine WC.no rfl ?_
            refine WC.skip ?_
            refine WX.join (((v2, nx, d1) : Value × List Nat × Bool)) ?_ (.cons rfl (.cons rfl (.cons rfl (.cons rfl (.cons rfl (.cons rfl (.cons rfl (.cons rfl (.cons rfl (.cons rfl (.nil)))))))))))
            have hq : RsI out (gv xs m) (p + 1) (nx ++ [gv out p]) d1 := by
              rcases hd1 with ⟨h1, h2⟩ | ⟨h1, h2⟩
              · subst h2; exact hrs.eq hso (by omega) h1
              · subst h2; exact hrs.go hso (by omega) (fun e => by subst e; first | omega | (simp at h31 <;> omega))
            have hq2 : List.length nx ≤ p + d1.toNat := by
              rcases hd1 with ⟨h1, h2⟩ | ⟨h1, h2⟩
              · have h6 := hrs.none_eq (by omega) (by omega)
                subst h6
                simp at hnl
                omega
              · subst h2; exact hnl
            exact ⟨hq, hq2, M25⟩
        · rintro ⟨v3, nx3, d2⟩ w40 ⟨hrs2, hn3, M40⟩
          dsimp only at hrs2 hn3 M40
          refine WC.sub (env' := [(5, .int .u64 (gv xs m : Int)), (6, v3), (7, .bool d2), (9, .int .u64 (gv out p : Int)), (10, .slice A xs.length c), (11, .int .i64 (xs.length : Int)), (12, .int .i64 (m : Int)), (16, .slice AO (List.length out) cO), (17, .int .i64 ((List.length out : Nat) : Int)), (18, .int .i64 (p : Int))]) (.cons rfl (.cons rfl (.cons rfl (.cons rfl (.cons rfl (.cons rfl (.cons rfl (.cons rfl (.cons rfl (.cons rfl (.nil))))))))))) ?_
          refine WC.region ?_
          have hd2l := Bool.toNat_le d2
          refine qA ?_
          refine qA ?_
          refine WL.ac rfl rfl rfl (Ac.bs M40 (parts := [(0, .tmp 37)]) (l := u64V [gv out p]) rfl rfl (LitS.one el67 rfl)) ?_; rintro v43 w43 ⟨gs15, rfl, hg43, K43, M43⟩
          refine WL.ac rfl rfl rfl (Ac.app M43 el67 rfl rfl (i := 1) rfl (by simp) (M43.rdw (i := 0) rfl) (u64V_one _) (by omega) (by unfold maxLen; omega)) ?_; rintro v44 w44 ⟨K44, M44⟩
          try dsimp only [List.set] at M44
          rw [← u64V_append, show List.length nx3 + 1 = List.length (nx3 ++ [gv out p]) by simp] at M44
          obtain ⟨vq15, hvq15⟩ : ∃ q, q = v44 := ⟨_, rfl⟩
          rw [← hvq15] at M44 ⊢
          refine qB ?_
          refine WL.nil ?_
          refine WX.normal_block (WX.next (?_))
          refine WC.region ?_
          refine WL.ex rfl rfl rfl (Ex.add rfl rfl (i64w _ (by omega) (by omega))) ?_
          refine qA ?_
          refine WL.nil ?_
          refine WX.again (((p + 1, vq15, nx3 ++ [gv out p], d2) : Nat × Value × List Nat × Bool)) ?_ ?_ (.cons rfl (.cons rfl (.cons rfl (.cons rfl (.cons rfl (.cons rfl (.cons rfl (.cons rfl (.cons rfl (.nil))))))))))
          · dsimp only; omega
          · exact ⟨by dsimp only; omega, hrs2, by simp; omega, (Mem.sub M44 (.cons _ (.refl _)))⟩
    · obtain rfl : p = out.length := by omega
      refine WC.exit ?_
      refine WX.exit_then (WX.exit_then (WX.exit_block (WX.next (?_))))
      refine WC.seq ?_
      refine qD ?_
      refine qA ?_
      refine WL.ex rfl rfl rfl (Ex.not rfl) ?_
      refine qE ?_
      refine WC.cond rfl (fun h42 => ?_) (fun h42 => ?_)
      · have hdn : dn = false := by simpa using h42
        subst hdn
        have hfin := hrs.fin0
        simp at hnl
        refine WC.region ?_
        refine qA ?_
        refine qA ?_
        refine WL.ac rfl rfl rfl (Ac.bs M16 (parts := [(0, .tmp 44)]) (l := u64V [gv xs m]) rfl rfl (LitS.one el67 rfl)) ?_; rintro v52 w52 ⟨gs18, rfl, hg52, K52, M52⟩
        refine WL.ac rfl rfl rfl (Ac.app M52 el67 rfl rfl (i := 1) rfl (by simp) (M52.rdw (i := 0) rfl) (u64V_one _) (by omega) (by unfold maxLen; omega)) ?_; rintro v53 w53 ⟨K53, M53⟩
        try dsimp only [List.set] at M53
        rw [← u64V_append, show List.length nx + 1 = List.length (nx ++ [gv xs m]) by simp] at M53
        obtain ⟨vq18, hvq18⟩ : ∃ q, q = v53 := ⟨_, rfl⟩
        rw [← hvq18] at M53 ⊢
        refine qB ?_
        refine qE ?_
        refine WC.region ?_
        refine qA ?_
        refine qB ?_
        refine WL.nil ?_
        refine WX.normal_block (WX.next (?_))
        refine WC.region ?_
        refine WL.ex rfl rfl rfl (Ex.add rfl rfl (i64w _ (by omega) (by omega))) ?_
        refine qA ?_
        refine WL.nil ?_
        refine WX.again (((m + 1, vq18, nx ++ [gv xs m]) : Nat × Value × List Nat)) ?_ ?_ (.cons rfl (.cons rfl (.cons rfl (.cons rfl (.nil)))))
        · dsimp only; omega
        · refine ⟨by dsimp only; omega, hfin.1, (fun x => by dsimp only; rw [hfin.2 x, hme x, mem_lt_snoc]), by (try simp); omega, ?_⟩
          first | exact (Mem.sub M53 (.cons _ (.cons_cons _ (List.nil_sublist _))))
      · have hdn : dn = true := by simpa using h42
        subst hdn
        have hfin := hrs.fin1
        simp at hnl
        refine WC.skip ?_
        refine WX.next ?_
        refine WC.region ?_
        refine qA ?_
        refine qB ?_
        refine WL.nil ?_
        refine WX.normal_block (WX.next (?_))
        refine WC.region ?_
        refine WL.ex rfl rfl rfl (Ex.add rfl rfl (i64w _ (by omega) (by omega))) ?_
        refine qA ?_
        refine WL.nil ?_
        refine WX.again (((m + 1, v2, nx) : Nat × Value × List Nat)) ?_ ?_ (.cons rfl (.cons rfl (.cons rfl (.cons rfl (.nil)))))
        · dsimp only; omega
        · refine ⟨by dsimp only; omega, hfin.1, (fun x => by dsimp only; rw [hfin.2 x, hme x, mem_lt_snoc]), by (try simp); omega, ?_⟩
          first | exact (Mem.sub M16 (.cons_cons _ (List.nil_sublist _)))
  · obtain rfl : m = xs.length := by omega
    refine WC.exit ?_
    refine WX.exit_then (WX.exit_then (WX.exit_block (WX.next (?_))))
    refine qD ?_
    refine qA ?_
    refine qB ?_
    refine qE ?_
    refine WC.ret ?_
    refine WX.ret1 rfl rfl ?_
    exact ⟨out, hso, (fun v => by rw [hme v, mem_gv]), hol, M6.toNew⟩

end Go.Proofs.YtchmjpdkonfifaaDoor

set_option linter.unusedVariables false
set_option linter.unusedSimpArgs false
namespace Go.Proofs.YtchmjpdkonfifaaDoor
open Go.Sx Go.RowKit
attribute [local irreducible] Ac Ex WL WC WX WP Gives sha

/- sponsion/multi.Make#nil -/
theorem makeN_ok (w : World) (n : Nat) (c m : Nat) (A : Option Addr) :
    Gives Tryd.prog 31 #[.pointer none, .int .u64 (n : Int), .slice A m c] w fun u w1 => u = .tuple #[.agg #[.slice none 0 0, .slice none 0 0], .int .i64 1] ∧ Keep nof w w1 := by
  have M0 := Mem.start w nof
  refine Gives.enter (n := 42) Tryd.func31 rfl Tryd.ntmps31 rfl (env := [(0, .pointer none), (1, .int .u64 (n : Int)), (2, .slice A m c)]) rfl ?_
  refine qD ?_
  refine WL.ac rfl rfl rfl (Ac.box M0 rfl (l := [.pointer none]) rfl) ?_; rintro v1 w1 ⟨g3, rfl, hg1, K1, M1⟩
  refine WL.ac rfl rfl rfl (Ac.box M1 rfl (l := [.int .u64 (n : Int)]) rfl) ?_; rintro v2 w2 ⟨g4, rfl, hg2, K2, M2⟩
  refine WL.ac rfl rfl rfl (Ac.alloc M2 (l := [.slice none 0 0, .slice none 0 0]) (by kernel_rfl)) ?_; rintro v3 w3 ⟨gr, rfl, hg3, K3, M3⟩
  refine qB ?_
  refine qE ?_
  refine WC.seq ?_
  refine WC.block ?_
  refine WC.seq ?_
  refine WC.draw (Keep nof w3.drew) [] (.one 0 1 (.one 1 0 (.one 2 0 (.one 3 1 (.one 4 1 (.one 5 2 (.one 6 0 (.one 7 0 (.one 8 0 .nil))))))))) mixed (by kernel_rfl) (by kernel_rfl) (by kernel_rfl) (HQ.then_ (HQ.block (HQ.then_ HQ.body))) ?_
  obtain ⟨w5, hw5⟩ : ∃ v, v = w3.drew := ⟨_, rfl⟩
  have D5 : Keep nof w3 w5 := by rw [hw5]; exact Keep.drew _ _
  have M5 := M3.step D5
  rw [← hw5]; clear hw5
  refine WP.q (Keep.refl _ _) rfl rfl rfl rfl (fun w' hS => Ex.load ty68 rfl (hS.cell (M5.cell (i := 2) rfl rfl) (fun f => f))) ?_
  refine WP.p rfl rfl rfl rfl (fun _ => Ex.eqPn Tryd.underlying68 rfl) ?_
  refine qC ?_
  refine WP.no1 (Keep.refl _ _) rfl rfl rfl rfl rfl rfl rfl ?_
  refine WP.no1 (Keep.refl _ _) rfl rfl rfl rfl rfl rfl rfl ?_
  refine WP.no2 rfl rfl rfl rfl rfl rfl rfl ?_
  refine WP.no rfl rfl rfl rfl rfl rfl rfl ?_
  refine WP.p rfl rfl rfl rfl (fun _ => Ex.pickT rfl rfl) ?_
  refine WP.p rfl rfl rfl rfl (fun _ => Ex.asg rfl) ?_
  refine WP.nil ?_
  refine WX.next ?_
  refine WC.yes rfl ?_
  refine qD ?_
  refine WL.ex rfl rfl rfl (Ex.bld bd72 (parts := []) (l := [.slice none 0 0, .slice none 0 0]) rfl rfl rfl rfl) ?_
  refine WL.ac0 rfl rfl (Ac.stA M5 ty72 rfl rfl (vs := [.slice none 0 0, .slice none 0 0]) rfl rfl (by intro u hu; simp at hu; rcases hu with rfl | rfl <;> rfl) (i := 0) rfl (by simp)) ?_; rintro v12 w12 ⟨K12, M12⟩
  try dsimp only [List.set] at M12
  try dsimp only [List.set] at M12
  rw [splice_all _ _ (by simp)] at M12
  refine qB ?_
  refine qE ?_
  refine WC.ret ?_
  refine WX.ret_block (WX.ret_then (?_))
  refine WX.retn rfl (.cell rfl (run_loadVarA ty72 (by rfl) (M12.rdw (i := 0) rfl)) (.tmp rfl .nil)) rfl ?_
  exact ⟨rfl, M12.keep⟩

end Go.Proofs.YtchmjpdkonfifaaDoor

set_option linter.unusedVariables false
set_option linter.unusedSimpArgs false
namespace Go.Proofs.YtchmjpdkonfifaaDoor
open Go.Sx Go.RowKit
attribute [local irreducible] Ac Ex WL WC WX WP Gives sha

theorem si_pw {l : List Nat} (h : SI l) : l.Pairwise (· < ·) := List.pairwise_iff_getElem.2 fun i j hi hj hij => by
  have h1 := h i j hij hj
  have e1 : gv l i = l[i] := by simp [gv, hi]
  have e2 : gv l j = l[j] := by simp [gv, hj]
  rwa [e1, e2] at h1
theorem pw_eq : ∀ {a b : List Nat}, a.Pairwise (· < ·) → b.Pairwise (· < ·) → (∀ v, v ∈ a ↔ v ∈ b) → a = b
  | [], [], _, _, _ => rfl
  | [], y :: b, _, _, h => absurd ((h y).2 (by simp)) (by simp)
  | x :: a, [], _, _, h => absurd ((h x).1 (by simp)) (by simp)
  | x :: a, y :: b, ha, hb, h => by
    rw [List.pairwise_cons] at ha hb
    have hxy : x = y := by
      rcases List.mem_cons.1 ((h x).1 (by simp)) with e | e
      · exact e
      · rcases List.mem_cons.1 ((h y).2 (by simp)) with e2 | e2
        · exact e2.symm
        · have h1 := hb.1 x e
          have h2 := ha.1 y e2
          omega
    subst hxy
    congr 1
    refine pw_eq ha.2 hb.2 fun v => ⟨fun hv => ?_, fun hv => ?_⟩
    · have h1 := ha.1 v hv
      rcases List.mem_cons.1 ((h v).1 (by simp [hv])) with e | e
      · omega
      · exact e
    · have h1 := hb.1 v hv
      rcases List.mem_cons.1 ((h v).2 (by simp [hv])) with e | e
      · omega
      · exact e
/-- There is one rising row of the same members. -/
theorem si_eq {a b : List Nat} (ha : SI a) (hb : SI b) (h : ∀ v, v ∈ a ↔ v ∈ b) : a = b := pw_eq (si_pw ha) (si_pw hb) h
theorem cnt_one (d x : Nat) : cnt d [x] = d := by
  induction d generalizing x with
  | zero => rfl
  | succ d ih =>
    show 1 + cnt d [x / 2] = d + 1
    rw [ih]; omega
theorem cnt_all : ∀ d, d ≤ 5 → cnt d (List.range (2 ^ d)) = 0 := by decide

theorem ups_mem : ∀ (zs : List Nat) (v : Nat), v ∈ ups zs ↔ ∃ z, z ∈ zs ∧ z / 2 = v
  | [], v => by simp [ups]
  | [i], v => by simp [ups, eq_comm]
  | i :: k :: r, v => by
    rw [ups]
    split
    · rename_i h
      obtain ⟨he, rfl⟩ := h
      rw [List.mem_cons, ups_mem r v]
      constructor
      · rintro (rfl | ⟨z, hz, e⟩)
        · exact ⟨i, by simp, rfl⟩
        · exact ⟨z, by simp [hz], e⟩
      · rintro ⟨z, hz, e⟩
        rcases List.mem_cons.1 hz with e1 | hz
        · exact .inl (by rw [← e, e1])
        · rcases List.mem_cons.1 hz with e1 | hz
          · exact .inl (by omega)
          · exact .inr ⟨z, hz, e⟩
    · rw [List.mem_cons, ups_mem (k :: r) v]
      constructor
      · rintro (rfl | ⟨z, hz, e⟩)
        · exact ⟨i, by simp, rfl⟩
        · exact ⟨z, List.mem_cons_of_mem _ hz, e⟩
      · rintro ⟨z, hz, e⟩
        rcases List.mem_cons.1 hz with e1 | hz
        · exact .inl (by rw [← e, e1])
        · exact .inr ⟨z, hz, e⟩
theorem ups_pw : ∀ {zs : List Nat}, zs.Pairwise (· < ·) → (ups zs).Pairwise (· < ·)
  | [], _ => by simp [ups]
  | [i], _ => by simp [ups]
  | i :: k :: r, h => by
    have h1 := List.pairwise_cons.1 h
    have h2 := List.pairwise_cons.1 h1.2
    rw [ups]
    split
    · rename_i hh
      obtain ⟨he, rfl⟩ := hh
      refine List.pairwise_cons.2 ⟨fun v hv => ?_, ups_pw h2.2⟩
      obtain ⟨z, hz, rfl⟩ := (ups_mem r v).1 hv
      have := h2.1 z hz
      omega
    · rename_i hh
      refine List.pairwise_cons.2 ⟨fun v hv => ?_, ups_pw h1.2⟩
      obtain ⟨z, hz, rfl⟩ := (ups_mem (k :: r) v).1 hv
      have h3 := h1.1 z hz
      have h4 := h1.1 k (by simp)
      have h5 : k ≤ z := by
        rcases List.mem_cons.1 hz with e | e
        · omega
        · have := h2.1 z e; omega
      omega
/-- What a level asks for: those whose sibling isn't there. -/
theorem cntL_eq : ∀ {zs : List Nat}, zs.Pairwise (· < ·) → ∀ ys : List Nat, (∀ z ∈ zs, ∀ y ∈ ys, y / 2 < z / 2) → cntL zs = (zs.filter fun z => decide (bes z ∉ ys ++ zs)).length
  | [], _, _, _ => rfl
  | [i], _, ys, hy => by
    have hn : bes i ∉ ys ++ [i] := fun hm => by
      rcases List.mem_append.1 hm with h | h
      · have := hy i (by simp) _ h; unfold bes at this; split at this <;> omega
      · have := List.mem_singleton.1 h; unfold bes at this; split at this <;> omega
    rw [List.filter_cons_of_pos (by simpa using hn)]
    rfl
  | i :: k :: r, h, ys, hy => by
    have h1 := List.pairwise_cons.1 h
    have h2 := List.pairwise_cons.1 h1.2
    rw [cntL]
    split
    · rename_i hh
      obtain ⟨he, rfl⟩ := hh
      have e1 : bes i = i + 1 := if_pos he
      have e2 : bes (i + 1) = i := by unfold bes; rw [if_neg (by omega)]; omega
      rw [List.filter_cons_of_neg (by rw [e1]; simp), List.filter_cons_of_neg (by rw [e2]; simp)]
      rw [cntL_eq h2.2 (ys ++ [i, i + 1]) (fun z hz y hyy => by
        rcases List.mem_append.1 hyy with q | q
        · exact hy z (by simp [hz]) y q
        · have := h2.1 z hz
          simp at q
          omega)]
      simp [List.append_assoc]
    · rename_i hh
      have hn : bes i ∉ ys ++ i :: k :: r := fun hm => by
        rcases List.mem_append.1 hm with q | q
        · have := hy i (by simp) _ q; unfold bes at this; split at this <;> omega
        · rcases List.mem_cons.1 q with q | q
          · unfold bes at q; split at q <;> omega
          · have h3 := h1.1 _ q
            have h4 : k ≤ bes i := by
              rcases List.mem_cons.1 q with e | e
              · omega
              · have := h2.1 _ e; omega
            have h5 := h1.1 k (by simp)
            by_cases he : i % 2 = 0
            · rw [show bes i = i + 1 from if_pos he] at h3 h4
              exact hh ⟨he, by omega⟩
            · rw [show bes i = i - 1 from if_neg he] at h3
              omega
      rw [List.filter_cons_of_pos (by simpa using hn), List.length_cons]
      have hg := cntL_eq h1.2 (ys ++ [i]) (fun z hz y hyy => by
        rcases List.mem_append.1 hyy with q | q
        · exact hy z (by simp [hz]) y q
        · have h3 := h1.1 z hz
          have h4 := h1.1 k (by simp)
          have h5 : k ≤ z := by
            rcases List.mem_cons.1 hz with e | e
            · omega
            · have := h2.1 z e; omega
          simp at q
          omega)
      rw [hg]
      simp [List.append_assoc]

theorem bes_bes (i : Nat) : bes (bes i) = i := by
  by_cases h : i % 2 = 0
  · rw [show bes i = i + 1 from if_pos h, show bes (i + 1) = i + 1 - 1 from if_neg (by omega)]; omega
  · rw [show bes i = i - 1 from if_neg h, show bes (i - 1) = i - 1 + 1 from if_pos (by omega)]; omega
theorem bes_half (i : Nat) : bes i / 2 = i / 2 := by
  by_cases h : i % 2 = 0
  · rw [show bes i = i + 1 from if_pos h]; omega
  · rw [show bes i = i - 1 from if_neg h]; omega
theorem cntL_f {zs : List Nat} (h : zs.Pairwise (· < ·)) : cntL zs = (zs.filter fun z => decide (bes z ∉ zs)).length := cntL_eq h [] (fun _ _ _ hy => by cases hy)
theorem pw_nodup {l : List Nat} (h : l.Pairwise (· < ·)) : l.Nodup := h.imp (fun h => Nat.ne_of_lt h)
theorem filter_le {p q : Nat → Bool} : ∀ {l : List Nat}, (∀ z ∈ l, p z = true → q z = true) → (l.filter p).length ≤ (l.filter q).length
  | [], _ => Nat.le_refl _
  | z :: l, h => by
    have ih := filter_le (p := p) (q := q) (l := l) fun y hy => h y (by simp [hy])
    cases hp : p z with
    | false =>
      rw [List.filter_cons_of_neg (by simp [hp])]
      cases hq : q z with
      | false => rw [List.filter_cons_of_neg (by simp [hq])]; exact ih
      | true => rw [List.filter_cons_of_pos (by simp [hq]), List.length_cons]; omega
    | true =>
      rw [List.filter_cons_of_pos (by simp [hp]), List.filter_cons_of_pos (by simp [h z (by simp) hp]), List.length_cons, List.length_cons]
      omega
theorem cntL_more {zs zt : List Nat} {x : Nat} (h : zs.Pairwise (· < ·)) (ht : zt.Pairwise (· < ·)) (hm : ∀ v, v ∈ zt ↔ v ∈ zs ∨ v = x) (hx : x ∉ zs) : cntL zt ≤ cntL zs + 1 ∧ (bes x ∈ zs → cntL zt ≤ cntL zs) := by
  have hp : zt.Perm (x :: zs) := (List.perm_ext_iff_of_nodup (pw_nodup ht) (List.nodup_cons.2 ⟨hx, pw_nodup h⟩)).2 fun v => by rw [hm v, List.mem_cons, Or.comm]
  have h1 : cntL zt = ((x :: zs).filter fun z => decide (bes z ∉ zt)).length := by rw [cntL_f ht]; exact (hp.filter _).length_eq
  have h2 : (zs.filter fun z => decide (bes z ∉ zt)).length ≤ cntL zs := by
    rw [cntL_f h]
    exact filter_le fun z _ hz => by
      simp only [decide_eq_true_eq] at hz ⊢
      exact fun hh => hz ((hm _).2 (.inl hh))
  constructor
  · rw [h1]
    by_cases c : bes x ∈ zt
    · rw [List.filter_cons_of_neg (by simp [c])]; omega
    · rw [List.filter_cons_of_pos (by simp [c]), List.length_cons]; omega
  · intro hb
    rw [h1, List.filter_cons_of_neg (by simp [(hm (bes x)).2 (.inl hb)])]
    exact h2
theorem cnt_more : ∀ (d : Nat) {zs zt : List Nat} {x : Nat}, zs.Pairwise (· < ·) → zt.Pairwise (· < ·) → (∀ v, v ∈ zt ↔ v ∈ zs ∨ v = x) → zs ≠ [] → (∀ v ∈ zt, v < 2 ^ d) → cnt d zt ≤ cnt d zs + (d - 1)
  | 0, _, _, _, _, _, _, _, _ => Nat.le_refl _
  | d + 1, zs, zt, x, h, ht, hm, hne, hlt => by
    by_cases hx : x ∈ zs
    · have e : zt = zs := pw_eq ht h fun v => by
        rw [hm v]
        exact ⟨fun hh => hh.elim id fun hh => hh ▸ hx, .inl⟩
      rw [e]; omega
    · have hc := cntL_more h ht hm hx
      rw [cnt, cnt]
      by_cases hb : bes x ∈ zs
      · have e : ups zt = ups zs := pw_eq (ups_pw ht) (ups_pw h) fun v => by
          rw [ups_mem, ups_mem]
          constructor
          · rintro ⟨z, hz, rfl⟩
            rcases (hm z).1 hz with hz | rfl
            · exact ⟨z, hz, rfl⟩
            · exact ⟨_, hb, bes_half _⟩
          · rintro ⟨z, hz, rfl⟩
            exact ⟨z, (hm z).2 (.inl hz), rfl⟩
        have := hc.2 hb
        rw [e]; omega
      · obtain ⟨z0, hz0⟩ := List.exists_mem_of_ne_nil zs hne
        have hd : 1 ≤ d := by
          rcases Nat.eq_zero_or_pos d with e | e
          · subst e
            have h1 := hlt z0 ((hm z0).2 (.inl hz0))
            have h2 := hlt x ((hm x).2 (.inr rfl))
            have h3 : z0 ≠ x := fun e => hx (e ▸ hz0)
            exfalso
            apply hb
            have h4 : bes x = z0 := by
              unfold bes
              split <;> omega
            rw [h4]; exact hz0
          · exact e
        have ih := cnt_more d (zs := ups zs) (zt := ups zt) (x := x / 2) (ups_pw h) (ups_pw ht) (fun v => by
          rw [ups_mem, ups_mem]
          constructor
          · rintro ⟨z, hz, rfl⟩
            rcases (hm z).1 hz with hz | rfl
            · exact .inl ⟨z, hz, rfl⟩
            · exact .inr rfl
          · rintro (⟨z, hz, rfl⟩ | rfl)
            · exact ⟨z, (hm z).2 (.inl hz), rfl⟩
            · exact ⟨x, (hm x).2 (.inr rfl), rfl⟩) (fun e => by
          have := (ups_mem zs (z0 / 2)).2 ⟨z0, hz0, rfl⟩
          rw [e] at this
          cases this) (fun v hv => by
          obtain ⟨z, hz, rfl⟩ := (ups_mem zt v).1 hv
          have := hlt z hz
          rw [Nat.pow_succ] at this
          omega)
        have := hc.1
        omega

end Go.Proofs.YtchmjpdkonfifaaDoor

set_option linter.unusedVariables false
set_option linter.unusedSimpArgs false
namespace Go.Proofs.YtchmjpdkonfifaaDoor
open Go.Sx Go.RowKit
attribute [local irreducible] Ac Ex WL WC WX WP Gives sha

/-- In a rising row a place's sibling, if it's there, stands beside it. -/
theorem bes_near {zs : List Nat} (h : SI zs) {k : Nat} (hk : k < zs.length) : bes (gv zs k) ∈ zs ↔ (k + 1 < zs.length ∧ gv zs (k + 1) = bes (gv zs k)) ∨ (0 < k ∧ gv zs (k - 1) = bes (gv zs k)) := by
  constructor
  · intro hm
    obtain ⟨j, hj, e⟩ := mem_gv.1 hm
    have hb : bes (gv zs k) = gv zs k + 1 ∨ bes (gv zs k) + 1 = gv zs k := by unfold bes; split <;> omega
    rcases Nat.lt_trichotomy j k with h1 | h1 | h1
    · right
      have h4 := h j k h1 hk
      refine ⟨by omega, ?_⟩
      by_cases c : j = k - 1
      · rw [← c, e]
      · have h2 := h j (k - 1) (by omega) (by omega)
        have h3 := h (k - 1) k (by omega) hk
        omega
    · subst h1; omega
    · left
      have h4 := h k j h1 hj
      by_cases c : j = k + 1
      · subst c; exact ⟨hj, e⟩
      · have h2 := h k (k + 1) (by omega) (by omega)
        have h3 := h (k + 1) j (by omega) hj
        omega
  · rintro (⟨h1, h2⟩ | ⟨h1, h2⟩)
    · rw [← h2]; exact gv_mem h1
    · rw [← h2]; exact gv_mem (by omega)
/-- What a level asks for, as a filter. -/
theorem sibL_eq (f : Nat → Nat → List UInt8) (l : Nat) : ∀ {zs : List Nat}, zs.Pairwise (· < ·) → ∀ ys : List Nat, (∀ z ∈ zs, ∀ y ∈ ys, y / 2 < z / 2) → sibL f l zs = (zs.filter fun z => decide (bes z ∉ ys ++ zs)).map fun z => f l (bes z)
  | [], _, _, _ => rfl
  | [i], _, ys, hy => by
    have hn : bes i ∉ ys ++ [i] := fun hm => by
      rcases List.mem_append.1 hm with h | h
      · have := hy i (by simp) _ h; unfold bes at this; split at this <;> omega
      · have := List.mem_singleton.1 h; unfold bes at this; split at this <;> omega
    rw [List.filter_cons_of_pos (by simpa using hn), sibL, ← bes_xor]
    rfl
  | i :: k :: r, h, ys, hy => by
    have h1 := List.pairwise_cons.1 h
    have h2 := List.pairwise_cons.1 h1.2
    rw [sibL]
    split
    · rename_i hh
      obtain ⟨he, rfl⟩ := hh
      have e1 : bes i = i + 1 := if_pos he
      have e2 : bes (i + 1) = i := by unfold bes; rw [if_neg (by omega)]; omega
      rw [List.filter_cons_of_neg (by rw [e1]; simp), List.filter_cons_of_neg (by rw [e2]; simp)]
      rw [sibL_eq f l h2.2 (ys ++ [i, i + 1]) (fun z hz y hyy => by
        rcases List.mem_append.1 hyy with q | q
        · exact hy z (by simp [hz]) y q
        · have := h2.1 z hz
          simp at q
          omega)]
      simp [List.append_assoc]
    · rename_i hh
      have hn : bes i ∉ ys ++ i :: k :: r := fun hm => by
        rcases List.mem_append.1 hm with q | q
        · have := hy i (by simp) _ q; unfold bes at this; split at this <;> omega
        · rcases List.mem_cons.1 q with q | q
          · unfold bes at q; split at q <;> omega
          · have h3 := h1.1 _ q
            have h4 : k ≤ bes i := by
              rcases List.mem_cons.1 q with e | e
              · omega
              · have := h2.1 _ e; omega
            have h5 := h1.1 k (by simp)
            by_cases he : i % 2 = 0
            · rw [show bes i = i + 1 from if_pos he] at h3 h4
              exact hh ⟨he, by omega⟩
            · rw [show bes i = i - 1 from if_neg he] at h3
              omega
      rw [List.filter_cons_of_pos (by simpa using hn), List.map_cons, ← bes_xor]
      have hg := sibL_eq f l h1.2 (ys ++ [i]) (fun z hz y hyy => by
        rcases List.mem_append.1 hyy with q | q
        · exact hy z (by simp [hz]) y q
        · have h3 := h1.1 z hz
          have h4 := h1.1 k (by simp)
          have h5 : k ≤ z := by
            rcases List.mem_cons.1 hz with e | e
            · omega
            · have := h2.1 z e; omega
          simp at q
          omega)
      rw [hg]
      simp [List.append_assoc]
theorem sibL_f (f : Nat → Nat → List UInt8) (l : Nat) {zs : List Nat} (h : SI zs) : sibL f l zs = (zs.filter fun z => decide (bes z ∉ zs)).map fun z => f l (bes z) := sibL_eq f l (si_pw h) [] (fun _ _ _ hy => by cases hy)
/-- What the first k places of a level ask for. -/
def outs (f : Nat → Nat → List UInt8) (l : Nat) (zs : List Nat) (k : Nat) : Hs := ((zs.take k).filter fun z => decide (bes z ∉ zs)).map fun z => f l (bes z)
theorem outs_yes (f : Nat → Nat → List UInt8) (l : Nat) {zs : List Nat} {k : Nat} (hk : k < zs.length) (h : bes (gv zs k) ∉ zs) : outs f l zs (k + 1) = outs f l zs k ++ [f l (bes (gv zs k))] := by
  rw [outs, take_snoc (gv_get hk), List.filter_append, List.map_append, List.filter_cons_of_pos (by simpa using h)]
  rfl
theorem outs_no (f : Nat → Nat → List UInt8) (l : Nat) {zs : List Nat} {k : Nat} (hk : k < zs.length) (h : bes (gv zs k) ∈ zs) : outs f l zs (k + 1) = outs f l zs k := by
  rw [outs, take_snoc (gv_get hk), List.filter_append, List.map_append, List.filter_cons_of_neg (by simpa using h)]
  simp [outs]
theorem outs_fin (f : Nat → Nat → List UInt8) (l : Nat) {zs : List Nat} (h : SI zs) : outs f l zs zs.length = sibL f l zs := by rw [outs, List.take_length, sibL_f f l h]
theorem outs_len (f : Nat → Nat → List UInt8) (l : Nat) (zs : List Nat) (k : Nat) : (outs f l zs k).length ≤ k := by
  rw [outs, List.length_map]
  have h1 := List.length_filter_le (fun z => decide (bes z ∉ zs)) (zs.take k)
  rw [List.length_take] at h1
  omega
/-- The places of the level above, of the first k. -/
structure UpI (zs : List Nat) (k : Nat) (up : List Nat) : Prop where
  si : SI up
  mem : ∀ v, v ∈ up ↔ ∃ j, j < k ∧ gv zs j / 2 = v
theorem UpI.start (zs : List Nat) : UpI zs 0 [] := ⟨fun i j h1 h2 => by simp at h2, fun v => by simp⟩
theorem UpI.yes {zs up : List Nat} {k : Nat} (h : UpI zs k up) (hz : SI zs) (hk : k < zs.length) (hc : k = 0 ∨ gv zs (k - 1) / 2 ≠ gv zs k / 2) : UpI zs (k + 1) (up ++ [gv zs k / 2]) := by
  refine ⟨si_snocm h.si fun v hv => ?_, fun v => ?_⟩
  · obtain ⟨j, hj, rfl⟩ := (h.mem v).1 hv
    have h1 := hz (k - 1) k (by omega) hk
    by_cases c : j = k - 1
    · subst c; omega
    · have h2 := hz j (k - 1) (by omega) (by omega)
      omega
  · rw [List.mem_append, h.mem v, List.mem_singleton]
    constructor
    · rintro (⟨j, hj, rfl⟩ | rfl)
      · exact ⟨j, by omega, rfl⟩
      · exact ⟨k, by omega, rfl⟩
    · rintro ⟨j, hj, rfl⟩
      by_cases c : j = k
      · rw [c]; exact .inr rfl
      · exact .inl ⟨j, by omega, rfl⟩
theorem UpI.no {zs up : List Nat} {k : Nat} (h : UpI zs k up) (h0 : 0 < k) (hc : gv zs (k - 1) / 2 = gv zs k / 2) : UpI zs (k + 1) up := by
  refine ⟨h.si, fun v => ?_⟩
  rw [h.mem v]
  constructor
  · rintro ⟨j, hj, rfl⟩
    exact ⟨j, by omega, rfl⟩
  · rintro ⟨j, hj, rfl⟩
    by_cases c : j = k
    · rw [c]; exact ⟨k - 1, by omega, hc⟩
    · exact ⟨j, by omega, rfl⟩
theorem UpI.fin {zs up : List Nat} (h : UpI zs zs.length up) (hz : SI zs) : up = ups zs := pw_eq (si_pw h.si) (ups_pw (si_pw hz)) fun v => by
  rw [h.mem v, ups_mem]
  constructor
  · rintro ⟨j, hj, rfl⟩
    exact ⟨_, gv_mem hj, rfl⟩
  · rintro ⟨z, hz, rfl⟩
    obtain ⟨j, hj, rfl⟩ := mem_gv.1 hz
    exact ⟨j, hj, rfl⟩
theorem si_of_pw {l : List Nat} (h : l.Pairwise (· < ·)) : SI l := fun i j hij hj => by
  have h1 := List.pairwise_iff_getElem.1 h i j (by omega) hj hij
  have e1 : gv l i = l[i] := by simp [gv, show i < l.length by omega]
  have e2 : gv l j = l[j] := by simp [gv, hj]
  rwa [e1, e2]
theorem ups_si {zs : List Nat} (h : SI zs) : SI (ups zs) := si_of_pw (ups_pw (si_pw h))
theorem sibL_congr {f g : Nat → Nat → List UInt8} {l : Nat} {zs : List Nat} (h : SI zs) (hc : ∀ z ∈ zs, f l (bes z) = g l (bes z)) : sibL f l zs = sibL g l zs := by
  rw [sibL_f f l h, sibL_f g l h]
  exact List.map_congr_left fun z hz => hc z (List.mem_filter.1 hz).1
theorem bes_lt {z d : Nat} (h : z < 2 ^ (d + 1)) : bes z < 2 ^ (d + 1) := by
  rw [Nat.pow_succ] at h ⊢
  unfold bes
  split <;> omega
theorem sibs_congr {f g : Nat → Nat → List UInt8} : ∀ (d l : Nat) {zs : List Nat}, SI zs → (∀ z ∈ zs, z < 2 ^ d) → (∀ l' i, l ≤ l' → l' < l + d → i < 2 ^ (l + d - l') → f l' i = g l' i) → sibs f d l zs = sibs g d l zs
  | 0, _, _, _, _, _ => rfl
  | d + 1, l, zs, h, hz, hc => by
    rw [sibs, sibs, sibL_congr h fun z hzz => hc l (bes z) (Nat.le_refl _) (by omega) (by rw [show l + (d + 1) - l = d + 1 by omega]; exact bes_lt (hz z hzz))]
    rw [sibs_congr d (l + 1) (ups_si h) (fun v hv => by
      obtain ⟨z, hz2, rfl⟩ := (ups_mem zs v).1 hv
      have := hz z hz2
      rw [Nat.pow_succ] at this
      omega) fun l' i h1 h2 h3 => hc l' i (by omega) (by omega) (by rw [show l + (d + 1) - l' = l + 1 + d - l' by omega]; exact h3)]
/-- What a bundle holds is the document's. -/
theorem sibs_ref {d n : Nat} {ls : Hs} {zs : List Nat} (h : SI zs) (hz : ∀ z ∈ zs, z < 2 ^ d) (hn : n ≤ ls.length) : sibs (fun l i => (tNode d ls n l i).1) d 0 zs = sibs (fun l i => nd dNode e0 (ls.take n) l i) d 0 zs :=
  sibs_congr d 0 h hz fun l i _ h2 h3 => by
    rw [Nat.zero_add] at h2 h3
    show (tNode d ls n l i).1 = _
    rw [tNode_yes (k := l) (a := nd dNode e0 (ls.take n) l i) hn (by omega) (Nat.div_eq_of_lt h3) rfl]

end Go.Proofs.YtchmjpdkonfifaaDoor
