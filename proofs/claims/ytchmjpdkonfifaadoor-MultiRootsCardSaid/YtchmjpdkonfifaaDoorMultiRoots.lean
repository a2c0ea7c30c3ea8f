/-
  Proved here: MultiRootsSaid: at every input the law MultiRoots returns true, and each argument reads behind the call as it read before. Conditions: none but those of the given row.
-/
import Derived.Test.YtchmjpdkonfifaaDoorRows
import Derived.Test.YtchmjpdkonfifaaDoorYs
import Derived.Test.YtchmjpdkonfifaaDoorYr
import Derived.Test.YtchmjpdkonfifaaDoorIn
import Derived.WalkKit
import Derived.ProofKit
import Derived.OpenShut
import Derived.ChangeOld
import Derived.Below
import Derived.Test.YtchmjpdkonfifaaDoorTie
import Derived.Test.YtchmjpdkonfifaaDoorCards
import Derived.Test.YtchmjpdkonfifaaDoorLaid
import Derived.SevenTiedAt
namespace Go.Proofs.YtchmjpdkonfifaaDoor.multiRootsDone
open Go.ChangeShapes Go.WideShapes Go.ChangeAt Go.RowKit Go.Sx
set_option linter.unusedVariables false
theorem own : ownKnob Tryd.prog.godebug = none := by kernel_rfl
theorem laidOut : laidOutB Tryd.prog = true := by kernel_rfl
def laidL : List (String × DataW Unit) := [("sponsion/sponsionref05.rounds", Rows.laid_sponsion_sponsionref05_rounds), ("sponsion/digest.begin", Rows.laid_sponsion_digest_begin), ("sponsion/digest.rounds", Rows.laid_sponsion_digest_rounds)]
theorem g0_ : Tryd.prog.globalNamed "sponsion/sponsionref05.rounds" = some 0 := by kernel_rfl
theorem t0_ : (Tryd.prog.globals[0]?).map (·.type) = some 165 := by kernel_rfl
theorem g1_ : Tryd.prog.globalNamed "sponsion/digest.begin" = some 1 := by kernel_rfl
theorem t1_ : (Tryd.prog.globals[1]?).map (·.type) = some 164 := by kernel_rfl
theorem g2_ : Tryd.prog.globalNamed "sponsion/digest.rounds" = some 2 := by kernel_rfl
theorem t2_ : (Tryd.prog.globals[2]?).map (·.type) = some 165 := by kernel_rfl
theorem of_laid {W : World} (h : laidMetH Tryd.prog laidL W) : Rd W (some ⟨0, 0, none⟩) (u32V kTab) ∧ Rd W (some ⟨1, 0, none⟩) (u32V hBeg) ∧ Rd W (some ⟨2, 0, none⟩) (u32V kTab) := by
  rw [MakeChecks.laidMetH_plain _ _ _ (by kernel_rfl)] at h
  obtain ⟨ps, ⟨g0, t0, cs0, f0, p0, q0, hg0, ht0, hv0, hd0, ⟨g1, t1, cs1, f1, p1, q1, hg1, ht1, hv1, hd1, ⟨g2, t2, cs2, f2, p2, q2, hg2, ht2, hv2, hd2, _, _⟩, _⟩, _⟩, _, _⟩ := h
  obtain rfl := Option.some.inj (g0_.symm.trans hg0)
  obtain rfl := Option.some.inj (t0_.symm.trans ht0)
  obtain rfl := Option.some.inj (g1_.symm.trans hg1)
  obtain rfl := Option.some.inj (t1_.symm.trans ht1)
  obtain rfl := Option.some.inj (g2_.symm.trans hg2)
  obtain rfl := Option.some.inj (t2_.symm.trans ht2)
  have r0 := rd_var hg0 hv0 (laid_arr Tryd.underlying165 (by kernel_rfl) (by kernel_rfl) (.inl ⟨_, Tryd.underlying46⟩) hd0)
  have r1 := rd_var hg1 hv1 (laid_arr Tryd.underlying164 (by kernel_rfl) (by kernel_rfl) (.inl ⟨_, Tryd.underlying46⟩) hd1)
  have r2 := rd_var hg2 hv2 (laid_arr Tryd.underlying165 (by kernel_rfl) (by kernel_rfl) (.inl ⟨_, Tryd.underlying46⟩) hd2)
  exact ⟨r0, r1, r2⟩
theorem door_met (os : Os) (args : Array Value) : laidMetH Tryd.prog laidL ((World.doorLaid Tryd.prog 4000 os).forCall (fun _ _ => 0) ⟨#[], args, []⟩).memory :=
  laidMetH_of_parts3 (fuel := 8) (laidMet_of_run' 8 (by kernel_rfl) (by kernel_rfl)) (by kernel_rfl) (by kernel_rfl)
set_option maxRecDepth 100000 in
theorem lifted (os : Os) (started : os.Started) (H : Type) (enc : TypeId × Value → H) :
    ReturnsInHanded {} Tryd.checked os 8 .any (fun w args => (Rows.multiRootsSpec.pre enc Tryd.prog Tryd.f8 Rows.multiRootsRow.domain false w args ∧ laidMetH Tryd.prog laidL w) ∧ sizedMet enc Tryd.prog Tryd.f8 (OpenSpec.ofChange Rows.multiRootsSpec) false w args) (Rows.multiRootsSpec.post enc Tryd.prog Tryd.f8 false true false false) := by
  refine returnsInHanded_of_change_and (C := Tryd.checked) (X := fun w _ => laidMetH Tryd.prog laidL w) (fun _ _ _ hh h => h.of_heap hh) own started (by kernel_rfl) Tryd.func8
    (ChangeSpec.witness_shaped (enc := enc) (C := Tryd.checked) (os := os) (X := fun w _ => laidMetH Tryd.prog laidL w) false (World.doorLaid Tryd.prog 4000 os) #[.int .i64 0, .slice none 0 0, .slice none 0 0, .slice none 0 0, .int .u64 0] 12 rfl (World.shaped_of_RefB (by kernel_rfl) (by kernel_rfl)) (by kernel_rfl) (by kernel_rfl) (by kernel_rfl) (door_met os _)) ?_
  intro W base args ds gs before hval0 hW hcnd _ hL _
  have hval : ∀ (j : Nat) t v, Tryd.f8.params[j]? = some t → args[j]? = some v → Value.okWide Tryd.prog W .any base t v := hval0
  have hW' := hW
  obtain ⟨p, q, hA0, hV, rfl, hfz, hnd⟩ := hW
  have hA : DataW.TrodAll enc Tryd.prog W 0 (fun _ => true) true Tryd.f8.params.toList args.toList ds p := hA0
  rw [Tryd.params8] at hA hval
  obtain ⟨hlR, hlB, hlK⟩ := of_laid hL
  obtain ⟨v0, vs0, d0, ds0, p0, q0, hargs, rfl, rfl, h0, r0⟩ := trodAll_cons hA
  obtain ⟨v1, vs1, d1, ds1, p1, q1, rfl, rfl, rfl, h1, r1⟩ := trodAll_cons r0
  obtain ⟨v2, vs2, d2, ds2, p2, q2, rfl, rfl, rfl, h2, r2⟩ := trodAll_cons r1
  obtain ⟨v3, vs3, d3, ds3, p3, q3, rfl, rfl, rfl, h3, r3⟩ := trodAll_cons r2
  obtain ⟨v4, vs4, d4, ds4, p4, q4, rfl, rfl, rfl, h4, r4⟩ := trodAll_cons r3
  obtain ⟨rfl, rfl, rfl⟩ := trodAll_nil r4
  obtain rfl : args = #[v0, v1, v2, v3, v4] := by cases args; simp_all
  obtain ⟨rfl, rfl⟩ := trodVars_none hV
  have k0 := h0
  have lt0 : ∀ x ∈ p0, x.block < W.heap.size := by obtain ⟨m, hm⟩ := k0; exact DataW.trod_lt m _ _ _ hm
  have o0 := came_one (by kernel_rfl : kin Tryd.prog 12 3 = some [.int .i64]) (by kernel_rfl) (hval 0 3 v0 rfl rfl) h0
  obtain ⟨d, hd1, hd2, rfl⟩ := ok_i64 o0
  have k1 := h1
  have lt1 : ∀ x ∈ p1, x.block < W.heap.size := by obtain ⟨m, hm⟩ := k1; exact DataW.trod_lt m _ _ _ hm
  have o1 := came_one (by kernel_rfl : kin Tryd.prog 12 67 = some [.sl [.int .u64]]) (by kernel_rfl) (hval 1 67 v1 rfl rfl) h1
  obtain ⟨A, c, xs, rfl, hb1, hb2, hr, hxs⟩ := ok_u64s o1
  have k2 := h2
  have lt2 : ∀ x ∈ p2, x.block < W.heap.size := by obtain ⟨m, hm⟩ := k2; exact DataW.trod_lt m _ _ _ hm
  have o2 := came_one (by kernel_rfl : kin Tryd.prog 12 39 = some [.sl [.int .u8, .int .u8, .int .u8, .int .u8, .int .u8, .int .u8, .int .u8, .int .u8, .int .u8, .int .u8, .int .u8, .int .u8, .int .u8, .int .u8, .int .u8, .int .u8, .int .u8, .int .u8, .int .u8, .int .u8, .int .u8, .int .u8, .int .u8, .int .u8, .int .u8, .int .u8, .int .u8, .int .u8, .int .u8, .int .u8, .int .u8, .int .u8]]) (by kernel_rfl) (hval 2 39 v2 rfl rfl) h2
  obtain ⟨B, cb, ns, rfl, hcb, hcbm, hrn, hns⟩ := ok_hashes o2
  have k3 := h3
  have lt3 : ∀ x ∈ p3, x.block < W.heap.size := by obtain ⟨m, hm⟩ := k3; exact DataW.trod_lt m _ _ _ hm
  have o3 := came_one (by kernel_rfl : kin Tryd.prog 12 39 = some [.sl [.int .u8, .int .u8, .int .u8, .int .u8, .int .u8, .int .u8, .int .u8, .int .u8, .int .u8, .int .u8, .int .u8, .int .u8, .int .u8, .int .u8, .int .u8, .int .u8, .int .u8, .int .u8, .int .u8, .int .u8, .int .u8, .int .u8, .int .u8, .int .u8, .int .u8, .int .u8, .int .u8, .int .u8, .int .u8, .int .u8, .int .u8, .int .u8]]) (by kernel_rfl) (hval 3 39 v3 rfl rfl) h3
  obtain ⟨C, cl, ls, rfl, hcl, hclm, hrl, hls⟩ := ok_hashes o3
  have k4 := h4
  have lt4 : ∀ x ∈ p4, x.block < W.heap.size := by obtain ⟨m, hm⟩ := k4; exact DataW.trod_lt m _ _ _ hm
  have o4 := came_one (by kernel_rfl : kin Tryd.prog 12 23 = some [.int .u64]) (by kernel_rfl) (hval 4 23 v4 rfl rfl) h4
  obtain ⟨n, hn, rfl⟩ := ok_u64 o4
  clear hA0 hval0
  refine (multiRoots_walk W d A c xs B cb ns C cl ls n hr hxs hrn hns hcb hrl hls ⟨hlB, hlK⟩ hlR).mono fun e W1 he => ?_
  obtain ⟨rfl, kp⟩ := he
  have bel := kp.below
  exact ⟨_, _, _, [], _, [], hW', trodAll_mk1 (shut_bool Tryd.underlying4 _), (trodAll_cons_mk (Below.trod laidOut (by kernel_rfl) (of_decide_eq_true (by kernel_rfl)) k0 bel lt0) (trodAll_cons_mk (Below.trod laidOut (by kernel_rfl) (of_decide_eq_true (by kernel_rfl)) k1 bel lt1) (trodAll_cons_mk (Below.trod laidOut (by kernel_rfl) (of_decide_eq_true (by kernel_rfl)) k2 bel lt2) (trodAll_cons_mk (Below.trod laidOut (by kernel_rfl) (of_decide_eq_true (by kernel_rfl)) k3 bel lt3) (trodAll_cons_mk (Below.trod laidOut (by kernel_rfl) (of_decide_eq_true (by kernel_rfl)) k4 bel lt4) trodAll_mk0))))), rfl, bel.frame _, fun h => by cases h⟩
theorem over : Rows.multiRootsRow.holds Tryd.pinned (OpenSpec.ofChange Rows.multiRootsSpec) :=
  OpenClaim.holds_of_wide 8 Tryd.f8 rfl rfl rfl rfl rfl rfl rfl ⟨rfl, rfl, rfl, rfl, rfl⟩ rfl rfl rfl rfl rfl (by kernel_rfl) Tryd.func8 (by kernel_rfl)
    (of_decide_eq_true (by kernel_rfl)) (by unfold Func.isWrapper; first | (rw [if_pos (by decide +kernel)]; kernel_rfl) | (rw [if_neg (by decide +kernel)]; exact ⟨rfl, rfl⟩))
    (fun os started H enc _ => lifted os started H enc)
theorem row_said : Rows.MultiRootsSaid := over
/-- The given statement: the tied card. -/
theorem proved : Rows.MultiRootsCardSaid :=
  Claim7.holds_tied_plain_at .later [] [.data, .data, .data] true (true, "9e0b5bf87786043636c169dc8262f46b80a1f55696c86e213305d79c915a10c4") false
    row_said (fun _ h => by cases h) (by kernel_rfl) (fun _ h => by cases h) multiRoots_row_tie rfl ⟨rfl, rfl⟩ (by kernel_rfl) rfl
    (fun f fn hf hfn => by
      obtain rfl : f = 8 := Option.some.inj ((show Tryd.prog.funcNamed "sponsion/sponsionlaw33.MultiRoots" = some 8 by kernel_rfl).symm.trans hf) |>.symm
      obtain rfl : fn = Tryd.f8 := (Option.some.inj (Tryd.func8.symm.trans hfn)).symm
      exact ⟨by kernel_rfl, fun j t ht => by
        rw [Tryd.params8] at ht
        have hm : t ∈ ([3, 67, 39, 39, 23] : List TypeId) := by simpa using Array.mem_of_getElem? ht
        have hall : (([3, 67, 39, 39, 23] : List TypeId).all fun u => !Tryd.prog.wantsStandIn u) = true := by kernel_rfl
        exact (show Tryd.prog.wantsStandIn t = false by simpa using List.all_eq_true.1 hall t hm)⟩)
    (by kernel_rfl)
#print axioms proved
end Go.Proofs.YtchmjpdkonfifaaDoor.multiRootsDone
