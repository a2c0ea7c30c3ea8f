/- Walks, written by gen.py off the translation's own print: each says what the Go function comes to. -/
import Derived.Test.YtchmjpdkonfifaaDoorGa
set_option linter.unusedVariables false
set_option linter.unusedSimpArgs false
namespace Go.Proofs.YtchmjpdkonfifaaDoor
open Go.Sx Go.RowKit
attribute [local irreducible] Ac Ex WL WC WX WP Gives sha

/- sponsion/domain.Of -/
theorem domOf_ok (w : World) (tag : Nat) (A : Option Addr) (c : Nat) (ps : List SV) (ht : tag < 256) (hr : RdP w A ps) (hT : Tabs w) (hp : ∀ p ∈ ps, p.l.length < 4294967296) (hb : (txt tag (ps.map (·.l))).length ≤ 1000000000000) :
    Gives Tryd.prog 85 #[.int .u8 (tag : Int), .slice A ps.length c] w fun u w1 => u = .agg (bytesV (dOf tag (ps.map (·.l)))).toArray ∧ Keep nof w w1 := by
  have M0 := Mem.start w nof
  have hs32 := dOf_len tag (ps.map (·.l))
  refine Gives.enter (n := 10) Tryd.func85 rfl Tryd.ntmps85 rfl (env := [(0, .int .u8 (tag : Int)), (1, .slice A ps.length c)]) rfl ?_
  refine WC.seq ?_
  refine WC.region ?_
  refine WL.ac rfl rfl rfl (Ac.alloc M0 (l := bytesV (List.replicate 32 0)) (by kernel_rfl)) ?_; rintro v1 w1 ⟨g1, rfl, hg1, K1, M1⟩
  refine WL.nil ?_
  refine WX.next (?_)
  refine WC.seq ?_
  refine WC.region ?_
  refine WL.ex rfl rfl rfl (Ex.mv rfl) ?_
  refine WL.ex rfl rfl rfl (Ex.mv rfl) ?_
  refine WL.ac rfl rfl rfl (Ac.call rfl Tryd.func101 nm101 rfl (text_ok w1 tag A c ps ht (hr.keep M1.keep) hp (by omega))) ?_; rintro v4 w4 N4
  have M4 := M1.new N4
  obtain ⟨A2, c2, rfl⟩ := own_slice (M4.get (i := 0) rfl)
  obtain ⟨X, hX⟩ : ∃ X, X = txt tag (ps.map (·.l)) := ⟨_, rfl⟩
  have hd : sha X = dOf tag (ps.map (·.l)) := by rw [hX]; rfl
  rw [← hX] at M4 hb ⊢
  refine WL.ac rfl rfl rfl (Ac.bs M4 (parts := [(0, .tmp 7)]) (l := [svV ⟨A2, c2, X⟩]) rfl rfl (LitS.one el153 rfl)) ?_; rintro v5 w5 ⟨g2, rfl, hg5, K5, M5⟩
  refine WL.ac rfl rfl rfl (Ac.call rfl Tryd.func100 nm100 rfl (dsum_ok w5 _ 1 [⟨A2, c2, X⟩] (RdP.one (M5.get (i := 0) rfl) (M5.rdr (i := 1) rfl)) (hT.keep M5.keep) (by rw [flatP_one]; omega) (by simp))) ?_; rintro v6 w6 ⟨rfl, K6⟩
  rw [flatP_one, hd]
  have M6 := M5.step K6
  refine WL.ac0 rfl rfl (Ac.stA M6 ty31 rfl rfl rfl (h32_len (by first | assumption | exact h32_0)) (bytesV_one _) (i := 2) rfl (by first | (rw [h32_len (by first | assumption | exact h32_0), h32_len (by first | assumption | exact h32_0)]; decide) | (rw [h32_len (by first | assumption | exact h32_0)]; decide) | rw [h32_len (by first | assumption | exact h32_0)])) ?_; rintro v7 w7 ⟨K7, M7⟩
  try dsimp only [List.set] at M7
  rw [splice_all _ _ (by first | rw [h32_len (by first | assumption | exact h32_0), h32_len (by first | assumption | exact h32_0)] | rw [h32_len (by first | assumption | exact h32_0)])] at M7
  refine WL.nil ?_
  refine WX.next (?_)
  refine WC.ret ?_
  refine WX.retc rfl rfl (run_loadVarA ty31 (h32_len (by first | assumption | exact h32_0)) (M7.rdw (i := 2) rfl)) ?_
  exact ⟨rfl, M7.keep⟩

/- sponsion/domain.Leaf -/
theorem leaf_ok (w : World) (A : Option Addr) (c : Nat) (b : List UInt8) (hr : Rd w A (bytesV b)) (hT : Tabs w) (hb : b.length ≤ 4000000000) :
    Gives Tryd.prog 56 #[.slice A b.length c] w fun u w1 => u = .agg (bytesV (dLeaf b)).toArray ∧ Keep nof w w1 := by
  have M0 := Mem.start w nof
  have hs32 := dLeaf_len b
  refine Gives.enter (n := 6) Tryd.func56 rfl Tryd.ntmps56 rfl (env := [(0, .slice A b.length c)]) rfl ?_
  refine WC.seq ?_
  refine WC.region ?_
  refine WL.ac rfl rfl rfl (Ac.alloc M0 (l := bytesV (List.replicate 32 0)) (by kernel_rfl)) ?_; rintro v1 w1 ⟨g1, rfl, hg1, K1, M1⟩
  refine WL.nil ?_
  refine WX.next (?_)
  refine WC.seq ?_
  refine WC.region ?_
  refine WL.ex rfl rfl rfl (Ex.mv rfl) ?_
  refine WL.ac rfl rfl rfl (Ac.bs M1 (parts := [(0, .tmp 3)]) (l := [svV ⟨A, c, b⟩]) rfl rfl (LitS.one el153 rfl)) ?_; rintro v3 w3 ⟨g2, rfl, hg3, K3, M3⟩
  refine WL.ac rfl rfl rfl (Ac.call rfl Tryd.func85 nm85 rfl (domOf_ok w3 0 _ _ [⟨A, c, b⟩] (by decide) (RdP.one (M3.get (i := 0) rfl) (M3.rd hr)) (hT.keep M3.keep) (by simp; omega) (by simp [txt_length]; omega))) ?_; rintro v4 w4 ⟨rfl, K4⟩
  rw [show dOf 0 (([⟨A, c, b⟩] : List SV).map (·.l)) = dLeaf b from rfl]
  have M4 := M3.step K4
  refine WL.ac0 rfl rfl (Ac.stA M4 ty31 rfl rfl rfl (h32_len (by first | assumption | exact h32_0)) (bytesV_one _) (i := 1) rfl (by first | (rw [h32_len (by first | assumption | exact h32_0), h32_len (by first | assumption | exact h32_0)]; decide) | (rw [h32_len (by first | assumption | exact h32_0)]; decide) | rw [h32_len (by first | assumption | exact h32_0)])) ?_; rintro v5 w5 ⟨K5, M5⟩
  try dsimp only [List.set] at M5
  rw [splice_all _ _ (by first | rw [h32_len (by first | assumption | exact h32_0), h32_len (by first | assumption | exact h32_0)] | rw [h32_len (by first | assumption | exact h32_0)])] at M5
  refine WL.nil ?_
  refine WX.next (?_)
  refine WC.ret ?_
  refine WX.retc rfl rfl (run_loadVarA ty31 (h32_len (by first | assumption | exact h32_0)) (M5.rdw (i := 1) rfl)) ?_
  exact ⟨rfl, M5.keep⟩

/- sponsion/domain.Node -/
theorem node_ok (w : World) (a b : List UInt8) (ha : H32 a) (hb : H32 b) (hT : Tabs w) :
    Gives Tryd.prog 74 #[.agg (bytesV a).toArray, .agg (bytesV b).toArray] w fun u w1 => u = .agg (bytesV (dNode a b)).toArray ∧ Keep nof w w1 := by
  have M0 := Mem.start w nof
  have hs32 := dNode_len a b
  refine Gives.enter (n := 9) Tryd.func74 rfl Tryd.ntmps74 rfl (env := [(0, .agg (bytesV a).toArray), (1, .agg (bytesV b).toArray)]) rfl ?_
  refine WC.seq ?_
  refine WC.region ?_
  refine WL.ac rfl rfl rfl (Ac.box M0 rfl rfl) ?_; rintro v1 w1 ⟨ga, rfl, hg1, K1, M1⟩
  refine WL.ac rfl rfl rfl (Ac.box M1 rfl rfl) ?_; rintro v2 w2 ⟨gb, rfl, hg2, K2, M2⟩
  refine WL.ac rfl rfl rfl (Ac.alloc M2 (l := bytesV (List.replicate 32 0)) (by kernel_rfl)) ?_; rintro v3 w3 ⟨g1, rfl, hg3, K3, M3⟩
  refine WL.nil ?_
  refine WX.next (?_)
  refine WC.seq ?_
  refine WC.draw (Keep nof w3.drew) [2, 3, 4] (.one 0 0 (.one 1 0 (.one 2 2 (.one 3 2 (.one 4 2 .nil))))) mixed (by kernel_rfl) (by kernel_rfl) (by kernel_rfl) (HQ.then_ HQ.body) ?_
  obtain ⟨w4, hw4⟩ : ∃ v, v = w3.drew := ⟨_, rfl⟩
  have D4 : Keep nof w3 w4 := by rw [hw4]; exact Keep.drew _ _
  have M4 := M3.step D4
  rw [← hw4]; clear hw4
  refine WP.p rfl rfl rfl rfl (fun _ => Ex.slA Tryd.underlying31 sz5 rfl) ?_
  refine WP.p rfl rfl rfl rfl (fun _ => Ex.slA Tryd.underlying31 sz5 rfl) ?_
  refine WP.a rfl rfl rfl rfl (Ac.bs M4 (parts := [(0, .tmp 5), (1, .tmp 6)]) (l := [.slice (some ⟨ga, 0, none⟩) 32 32, .slice (some ⟨gb, 0, none⟩) 32 32]) rfl rfl ⟨Tryd.underlying153, 1, #[.slice none 0 0], sz112, by decide, fun _ => by kernel_rfl, by kernel_rfl⟩) ?_; rintro v7 w7 ⟨g2, rfl, hg7, K7, M7⟩; refine .inl ⟨rfl, Keep nof w7, ?_⟩
  replace M7 := M7.eqv (i := 0) rfl (r' := blk g2 [svV ⟨some ⟨ga, 0, none⟩, 32, a⟩, svV ⟨some ⟨gb, 0, none⟩, 32, b⟩] 112) (by simp only [svV, ha, hb])
  try dsimp only [List.set] at M7
  refine WP.a rfl rfl rfl rfl (Ac.call rfl Tryd.func85 nm85 rfl (domOf_ok w7 1 _ _ [⟨some ⟨ga, 0, none⟩, 32, a⟩, ⟨some ⟨gb, 0, none⟩, 32, b⟩] (by decide) ⟨M7.rdw (i := 0) rfl, fun p hp => by simp only [List.mem_cons, List.not_mem_nil, or_false] at hp; rcases hp with rfl | rfl <;> first | exact M7.rdw (i := 3) rfl | exact M7.rdw (i := 2) rfl⟩ (hT.keep M7.keep) (fun p hp => by simp only [List.mem_cons, List.not_mem_nil, or_false] at hp; rcases hp with rfl | rfl <;> (simp only [ha, hb]; decide)) (by show (txt 1 [a, b]).length ≤ _; rw [txt_2, ha, hb]; decide))) ?_; rintro v8 w8 ⟨rfl, K8⟩; refine .inl ⟨rfl, Keep nof w8, ?_⟩
  rw [show dOf 1 (([⟨some ⟨ga, 0, none⟩, 32, a⟩, ⟨some ⟨gb, 0, none⟩, 32, b⟩] : List SV).map (·.l)) = dNode a b from rfl]
  have M8 := M7.step K8
  refine WP.a0 rfl rfl rfl (Ac.stA M8 ty31 rfl rfl rfl (h32_len (by first | assumption | exact h32_0)) (bytesV_one _) (i := 1) rfl (by first | (rw [h32_len (by first | assumption | exact h32_0), h32_len (by first | assumption | exact h32_0)]; decide) | (rw [h32_len (by first | assumption | exact h32_0)]; decide) | rw [h32_len (by first | assumption | exact h32_0)])) ?_; rintro v9 w9 ⟨K9, M9⟩; refine .inl ⟨rfl, Keep nof w9, ?_⟩
  try dsimp only [List.set] at M9
  rw [splice_all _ _ (by first | rw [h32_len (by first | assumption | exact h32_0), h32_len (by first | assumption | exact h32_0)] | rw [h32_len (by first | assumption | exact h32_0)])] at M9
  refine WP.nil ?_
  refine WX.next (?_)
  refine WC.ret ?_
  refine WX.retc rfl rfl (run_loadVarA ty31 (h32_len (by first | assumption | exact h32_0)) (M9.rdw (i := 1) rfl)) ?_
  exact ⟨rfl, M9.keep⟩

/- sponsion/domain.Empty -/
theorem empty_ok (w : World) (z : Int) (hz : -9223372036854775808 ≤ z ∧ z ≤ 9223372036854775807) (hT : Tabs w) :
    Gives Tryd.prog 78 #[.int .i64 z] w fun u w1 => u = .agg (bytesV (emptyH (lvl z))).toArray ∧ Keep nof w w1 := by
  have M0 := Mem.start w nof
  have hl32 := lvl_le z
  refine Gives.enter (n := 15) Tryd.func78 rfl Tryd.ntmps78 rfl (env := [(0, .int .i64 z)]) rfl ?_
  refine WC.seq ?_
  refine WC.region ?_
  refine WL.ac rfl rfl rfl (Ac.alloc M0 (l := bytesV (List.replicate 32 0)) (by kernel_rfl)) ?_; rintro v1 w1 ⟨g1, rfl, hg1, K1, M1⟩
  refine WL.nil ?_
  refine WX.next (?_)
  refine WC.seq ?_
  refine WC.region ?_
  refine WL.ac rfl rfl rfl (Ac.call rfl Tryd.func85 nm85 rfl (domOf_ok w1 2 _ _ [] (by decide) (RdP.nil _ _) (hT.keep M1.keep) (by simp) (by decide))) ?_; rintro v2 w2 ⟨rfl, K2⟩
  rw [show dOf 2 (([] : List SV).map (·.l)) = emptyH 0 from rfl]
  have M2 := M1.step K2
  refine WL.ac rfl rfl rfl (Ac.alloc M2 (l := bytesV (List.replicate 32 0)) (by kernel_rfl)) ?_; rintro v3 w3 ⟨gh, rfl, hg3, K3, M3⟩
  refine WL.ac0 rfl rfl (Ac.stA M3 ty31 rfl rfl rfl (h32_len (emptyH_len 0)) (bytesV_one _) (i := 0) rfl (by rw [h32_len (emptyH_len 0), h32_len h32_0]; decide)) ?_; rintro v4 w4 ⟨K4, M4⟩
  try dsimp only [List.set] at M4
  rw [splice_all _ _ (by rw [h32_len (emptyH_len 0), h32_len h32_0])] at M4
  refine WL.nil ?_
  refine WX.next (?_)
  refine WC.seq ?_
  refine WC.seq ?_
  refine WC.region ?_
  refine WL.ex rfl rfl rfl (Ex.mv rfl) ?_
  refine WL.ex rfl rfl rfl (Ex.min2 rfl rfl (c := min z 32) (by split <;> omega)) ?_
  refine WL.ex rfl rfl rfl (Ex.max2 rfl rfl (c := ((lvl z : Nat) : Int)) (by unfold lvl; split <;> omega)) ?_
  refine WL.ex rfl rfl rfl (Ex.mv rfl) ?_
  refine WL.nil ?_
  refine WX.next (?_)
  refine WC.block ?_
  refine WC.loop (σ := Nat) (fun i => [(2, .pointer (some ⟨g1, 0, none⟩)), (3, .pointer (some ⟨gh, 0, none⟩)), (7, .int .i64 ((lvl z : Nat) : Int)), (8, .int .i64 (i : Int))]) (fun i wr => i ≤ lvl z ∧ Mem w wr nof [blk gh (bytesV (emptyH i)) 31, blk g1 (bytesV (List.replicate 32 0)) 31]) (fun i => lvl z - i) (0) ?_ (.cons rfl (.cons rfl (.cons rfl (.cons rfl (.nil))))) ?_
  · exact ⟨by omega, M4⟩
  rintro i w9 ⟨hi, M9⟩
  refine WC.seq ?_
  refine WC.region ?_
  refine WL.ex rfl rfl rfl (Ex.lss rfl rfl) ?_
  refine WL.nil ?_
  refine WX.next (?_)
  refine WC.seq ?_
  refine WC.cond_dec rfl (fun hin => ?_) (fun hin => ?_)
  · have hei := emptyH_len i
    have hei1 := emptyH_len (i + 1)
    refine WC.skip ?_
    refine WX.next (?_)
    refine WC.seq ?_
    refine WC.block ?_
    refine WC.region ?_
    refine WL.ex rfl rfl rfl (Ex.loadA ty31 rfl (h32_len (by first | assumption | exact h32_0)) (M9.rdw (i := 0) rfl)) ?_
    refine WL.ex rfl rfl rfl (Ex.loadA ty31 rfl (h32_len (by first | assumption | exact h32_0)) (M9.rdw (i := 0) rfl)) ?_
    refine WL.ac rfl rfl rfl (Ac.call rfl Tryd.func74 nm74 rfl (node_ok w9 _ _ hei hei (hT.keep M9.keep))) ?_; rintro v13 w13 ⟨rfl, K13⟩
    rw [show dNode (emptyH i) (emptyH i) = emptyH (i + 1) from rfl]
    have M13 := M9.step K13
    refine WL.ac0 rfl rfl (Ac.stA M13 ty31 rfl rfl rfl (h32_len (by first | assumption | exact h32_0)) (bytesV_one _) (i := 0) rfl (by first | (rw [h32_len (by first | assumption | exact h32_0), h32_len (by first | assumption | exact h32_0)]; decide) | (rw [h32_len (by first | assumption | exact h32_0)]; decide) | rw [h32_len (by first | assumption | exact h32_0)])) ?_; rintro v14 w14 ⟨K14, M14⟩
    try dsimp only [List.set] at M14
    rw [splice_all _ _ (by first | rw [h32_len (by first | assumption | exact h32_0), h32_len (by first | assumption | exact h32_0)] | rw [h32_len (by first | assumption | exact h32_0)])] at M14
    refine WL.nil ?_
    refine WX.normal_block (WX.next (?_))
    refine WC.region ?_
    refine WL.ex rfl rfl rfl (Ex.add rfl rfl (i64w _ (by omega) (by omega))) ?_
    refine WL.ex rfl rfl rfl (Ex.mv rfl) ?_
    refine WL.nil ?_
    refine WX.again (i + 1) ?_ ?_ (.cons rfl (.cons rfl (.cons rfl (.cons rfl (.nil)))))
    · (try dsimp only); omega
    · exact ⟨by omega, M14⟩
  · obtain rfl : i = lvl z := by omega
    have hei := emptyH_len (lvl z)
    refine WC.exit ?_
    refine WX.exit_then (WX.exit_then (WX.exit_block (WX.next (?_))))
    refine WC.seq ?_
    refine WC.region ?_
    refine WL.ex rfl rfl rfl (Ex.loadA ty31 rfl (h32_len (by first | assumption | exact h32_0)) (M9.rdw (i := 0) rfl)) ?_
    refine WL.ac0 rfl rfl (Ac.stA M9 ty31 rfl rfl rfl (h32_len (by first | assumption | exact h32_0)) (bytesV_one _) (i := 1) rfl (by first | (rw [h32_len (by first | assumption | exact h32_0), h32_len (by first | assumption | exact h32_0)]; decide) | (rw [h32_len (by first | assumption | exact h32_0)]; decide) | rw [h32_len (by first | assumption | exact h32_0)])) ?_; rintro v18 w18 ⟨K18, M18⟩
    try dsimp only [List.set] at M18
    rw [splice_all _ _ (by first | rw [h32_len (by first | assumption | exact h32_0), h32_len (by first | assumption | exact h32_0)] | rw [h32_len (by first | assumption | exact h32_0)])] at M18
    refine WL.nil ?_
    refine WX.next (?_)
    refine WC.ret ?_
    refine WX.retc rfl rfl (run_loadVarA ty31 (by exact h32_len (emptyH_len _)) (M18.rdw (i := 1) rfl)) ?_
    exact ⟨rfl, M18.keep⟩

end Go.Proofs.YtchmjpdkonfifaaDoor
