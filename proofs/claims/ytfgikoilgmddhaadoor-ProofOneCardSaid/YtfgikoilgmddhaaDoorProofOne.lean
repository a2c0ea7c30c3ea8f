/-
  Proved here: ProofOneSaid: at every input the law ProofOne returns true, and each argument reads behind the call as it read before. Conditions: none but those of the given row.
-/
import Derived.Test.YtfgikoilgmddhaaDoorRows
import Derived.Test.YtfgikoilgmddhaaDoorWi
import Derived.Test.YtfgikoilgmddhaaDoorIn
import Derived.WalkKit
import Derived.ProofKit
import Derived.OpenShut
import Derived.ChangeOld
import Derived.Below
import Derived.Test.YtfgikoilgmddhaaDoorTie
import Derived.Test.YtfgikoilgmddhaaDoorCards
import Derived.Test.YtfgikoilgmddhaaDoorLaid
import Derived.SevenTiedAt
namespace Go.Proofs.YtfgikoilgmddhaaDoor.proofOneDone
open Go.ChangeShapes Go.WideShapes Go.ChangeAt Go.RowKit Go.Sx
set_option linter.unusedVariables false
theorem own : ownKnob Tryd.prog.godebug = none := by kernel_rfl
theorem laidOut : laidOutB Tryd.prog = true := by kernel_rfl
def laidL : List (String × DataW Unit) := [("sponsion/digest.begin", Rows.laid_sponsion_digest_begin), ("sponsion/digest.rounds", Rows.laid_sponsion_digest_rounds)]
theorem g0_ : Tryd.prog.globalNamed "sponsion/digest.begin" = some 1 := by kernel_rfl
theorem t0_ : (Tryd.prog.globals[1]?).map (·.type) = some 99 := by kernel_rfl
theorem g1_ : Tryd.prog.globalNamed "sponsion/digest.rounds" = some 2 := by kernel_rfl
theorem t1_ : (Tryd.prog.globals[2]?).map (·.type) = some 101 := by kernel_rfl
theorem of_laid {W : World} (h : laidMetH Tryd.prog laidL W) : Rd W (some ⟨1, 0, none⟩) (u32V hBeg) ∧ Rd W (some ⟨2, 0, none⟩) (u32V kTab) := by
  rw [MakeChecks.laidMetH_plain _ _ _ (by kernel_rfl)] at h
  obtain ⟨ps, ⟨g0, t0, cs0, f0, p0, q0, hg0, ht0, hv0, hd0, ⟨g1, t1, cs1, f1, p1, q1, hg1, ht1, hv1, hd1, _, _⟩, _⟩, _, _⟩ := h
  obtain rfl := Option.some.inj (g0_.symm.trans hg0)
  obtain rfl := Option.some.inj (t0_.symm.trans ht0)
  obtain rfl := Option.some.inj (g1_.symm.trans hg1)
  obtain rfl := Option.some.inj (t1_.symm.trans ht1)
  have r0 := rd_var hg0 hv0 (laid_arr Tryd.underlying99 (by kernel_rfl) (by kernel_rfl) (.inl ⟨_, Tryd.underlying96⟩) hd0)
  have r1 := rd_var hg1 hv1 (laid_arr Tryd.underlying101 (by kernel_rfl) (by kernel_rfl) (.inl ⟨_, Tryd.underlying96⟩) hd1)
  exact ⟨r0, r1⟩
theorem door_met (os : Os) (args : Array Value) : laidMetH Tryd.prog laidL ((World.doorLaid Tryd.prog 4000 os).forCall (fun _ _ => 0) ⟨#[], args, []⟩).memory :=
  laidMetH_of_parts3 (fuel := 8) (laidMet_of_run' 8 (by kernel_rfl) (by kernel_rfl)) (by kernel_rfl) (by kernel_rfl)
theorem okRep {P : Program} {w : World} {t u : TypeId} {N m : Nat} {e : TypeId} {v : Value} (hu : P.underlying t = some (.array m e)) (hc : P.cellsOf t = N) (ht : P.cellTypes P.depth t = some (List.replicate N u)) (hN : 0 < N) (hv : Cell.okWideB P w u v = true) : Value.okWideB P w t (.agg (List.replicate N v).toArray) = true := by
  simp only [Value.okWideB, hu, Cell.okWideRowB, ht, hc, List.size_toArray, List.length_replicate, beq_self_eq_true, Bool.true_and, Nat.mod_self, List.all_eq_true, List.mem_range, List.getElem?_toArray]
  intro i hi
  rw [List.getElem?_replicate, if_pos hi, List.getElem?_replicate, if_pos (Nat.mod_lt _ hN)]
  exact hv
def okAll (P : Program) (w : World) : List TypeId → List Value → Bool
  | [], [] => true
  | t :: ts, v :: vs => Value.okWideB P w t v && okAll P w ts vs
  | _, _ => false
theorem okAll_get {P : Program} {w : World} : ∀ {ts : List TypeId} {vs : List Value}, okAll P w ts vs = true → ∀ j, j < ts.length → ∃ t v, ts[j]? = some t ∧ vs[j]? = some v ∧ Value.okWideB P w t v = true
  | [], [], _, j, hj => by simp at hj
  | t :: ts, v :: vs, h, j, hj => by
    rw [okAll, Bool.and_eq_true] at h
    cases j with
    | zero => exact ⟨t, v, rfl, rfl, h.1⟩
    | succ j => exact okAll_get h.2 j (by simpa using hj)
  | [], v :: vs, h, _, _ => by simp [okAll] at h
  | t :: ts, [], h, _, _ => by simp [okAll] at h
theorem okWideB_of {P : Program} {w : World} {f : FuncId} {fn : Func} {args : Array Value} (hf : P.funcs[f]? = some fn) (h0 : (P.inits.idxOf? f).isNone = true) (hb : (fn.body.isSome && !fn.ours && fn.nfree == 0 && args.size == fn.params.size) = true) (h : okAll P w fn.params.toList args.toList = true) : Input.okWideB P w f ⟨#[], args, []⟩ = true := by
  simp only [Input.okWideB, hf, h0, hb, List.all_nil, List.isEmpty_nil, Bool.true_and, List.all_eq_true, List.mem_range]
  intro j hj
  obtain ⟨t, v, h1, h2, h3⟩ := okAll_get h j (by simpa using hj)
  rw [Array.getElem?_toList] at h1 h2
  rw [h1, h2]
  exact h3
theorem ok_cons {P : Program} {w : World} {t : TypeId} {v : Value} {ts : List TypeId} {vs : List Value} (h1 : Value.okWideB P w t v = true) (h2 : okAll P w ts vs = true) : okAll P w (t :: ts) (v :: vs) = true := by rw [okAll, h1, h2]; rfl
set_option maxRecDepth 100000 in
theorem lifted (os : Os) (started : os.Started) (H : Type) (enc : TypeId × Value → H) :
    ReturnsInHanded {} Tryd.checked os 6 .any (fun w args => (Rows.proofOneSpec.pre enc Tryd.prog Tryd.f6 Rows.proofOneRow.domain false w args ∧ laidMetH Tryd.prog laidL w) ∧ sizedMet enc Tryd.prog Tryd.f6 (OpenSpec.ofChange Rows.proofOneSpec) false w args) (Rows.proofOneSpec.post enc Tryd.prog Tryd.f6 false true false false) := by
  refine returnsInHanded_of_change_and (C := Tryd.checked) (X := fun w _ => laidMetH Tryd.prog laidL w) (fun _ _ _ hh h => h.of_heap hh) own started (by kernel_rfl) Tryd.func6
    (ChangeSpec.witness_shaped (enc := enc) (C := Tryd.checked) (os := os) (X := fun w _ => laidMetH Tryd.prog laidL w) false (World.doorLaid Tryd.prog 4000 os) #[.int .u8 0, .int .u64 0, .agg #[.int .u8 0, .int .u8 0, .int .u8 0, .int .u8 0, .int .u8 0, .int .u8 0, .int .u8 0, .int .u8 0, .int .u8 0, .int .u8 0, .int .u8 0, .int .u8 0, .int .u8 0, .int .u8 0, .int .u8 0, .int .u8 0, .int .u8 0, .int .u8 0, .int .u8 0, .int .u8 0, .int .u8 0, .int .u8 0, .int .u8 0, .int .u8 0, .int .u8 0, .int .u8 0, .int .u8 0, .int .u8 0, .int .u8 0, .int .u8 0, .int .u8 0, .int .u8 0], .agg #[.int .u8 0, .int .u8 0, .int .u8 0, .int .u8 0, .int .u8 0, .int .u8 0, .int .u8 0, .int .u8 0, .int .u8 0, .int .u8 0, .int .u8 0, .int .u8 0, .int .u8 0, .int .u8 0, .int .u8 0, .int .u8 0, .int .u8 0, .int .u8 0, .int .u8 0, .int .u8 0, .int .u8 0, .int .u8 0, .int .u8 0, .int .u8 0, .int .u8 0, .int .u8 0, .int .u8 0, .int .u8 0, .int .u8 0, .int .u8 0, .int .u8 0, .int .u8 0], .agg (List.replicate 1024 (.int .u8 0)).toArray, .agg (List.replicate 1024 (.int .u8 0)).toArray] 12 rfl (World.shaped_of_RefB (by kernel_rfl) (by kernel_rfl)) (okWideB_of Tryd.func6 (by kernel_rfl) (by kernel_rfl) (by rw [show Tryd.f6.params = #[5, 23, 28, 28, 38, 38] from Tryd.params6]; exact ok_cons (by kernel_rfl) (ok_cons (by kernel_rfl) (ok_cons (by kernel_rfl) (ok_cons (by kernel_rfl) (ok_cons (okRep (u := 5) Tryd.underlying38 (by kernel_rfl) (by kernel_rfl) (by decide) (by kernel_rfl)) (ok_cons (okRep (u := 5) Tryd.underlying38 (by kernel_rfl) (by kernel_rfl) (by decide) (by kernel_rfl)) (rfl)))))))) (by kernel_rfl) (by kernel_rfl) (door_met os _)) ?_
  intro W base args ds gs before hval0 hW hcnd _ hL _
  have hval : ∀ (j : Nat) t v, Tryd.f6.params[j]? = some t → args[j]? = some v → Value.okWide Tryd.prog W .any base t v := hval0
  have hW' := hW
  obtain ⟨p, q, hA0, hV, rfl, hfz, hnd⟩ := hW
  have hA : DataW.TrodAll enc Tryd.prog W 0 (fun _ => true) true Tryd.f6.params.toList args.toList ds p := hA0
  rw [Tryd.params6] at hA hval
  obtain ⟨hlB, hlK⟩ := of_laid hL
  obtain ⟨v0, vs0, d0, ds0, p0, q0, hargs, rfl, rfl, h0, r0⟩ := trodAll_cons hA
  obtain ⟨v1, vs1, d1, ds1, p1, q1, rfl, rfl, rfl, h1, r1⟩ := trodAll_cons r0
  obtain ⟨v2, vs2, d2, ds2, p2, q2, rfl, rfl, rfl, h2, r2⟩ := trodAll_cons r1
  obtain ⟨v3, vs3, d3, ds3, p3, q3, rfl, rfl, rfl, h3, r3⟩ := trodAll_cons r2
  obtain ⟨v4, vs4, d4, ds4, p4, q4, rfl, rfl, rfl, h4, r4⟩ := trodAll_cons r3
  obtain ⟨v5, vs5, d5, ds5, p5, q5, rfl, rfl, rfl, h5, r5⟩ := trodAll_cons r4
  obtain ⟨rfl, rfl, rfl⟩ := trodAll_nil r5
  obtain rfl : args = #[v0, v1, v2, v3, v4, v5] := by cases args; simp_all
  obtain ⟨rfl, rfl⟩ := trodVars_none hV
  have k0 := h0
  have lt0 : ∀ x ∈ p0, x.block < W.heap.size := by obtain ⟨m, hm⟩ := k0; exact DataW.trod_lt m _ _ _ hm
  have o0 := came_one (by kernel_rfl : kin Tryd.prog 12 5 = some [.int .u8]) (by kernel_rfl) (hval 0 5 v0 rfl rfl) h0
  obtain ⟨x, hx, rfl⟩ := ok_u8n o0
  have k1 := h1
  have lt1 : ∀ x ∈ p1, x.block < W.heap.size := by obtain ⟨m, hm⟩ := k1; exact DataW.trod_lt m _ _ _ hm
  have o1 := came_one (by kernel_rfl : kin Tryd.prog 12 23 = some [.int .u64]) (by kernel_rfl) (hval 1 23 v1 rfl rfl) h1
  obtain ⟨i, hi, rfl⟩ := ok_u64 o1
  have k2 := h2
  have lt2 : ∀ x ∈ p2, x.block < W.heap.size := by obtain ⟨m, hm⟩ := k2; exact DataW.trod_lt m _ _ _ hm
  obtain ⟨cs2, rfl, o2⟩ := came_agg (by kernel_rfl : kin Tryd.prog 12 28 = some [.int .u8, .int .u8, .int .u8, .int .u8, .int .u8, .int .u8, .int .u8, .int .u8, .int .u8, .int .u8, .int .u8, .int .u8, .int .u8, .int .u8, .int .u8, .int .u8, .int .u8, .int .u8, .int .u8, .int .u8, .int .u8, .int .u8, .int .u8, .int .u8, .int .u8, .int .u8, .int .u8, .int .u8, .int .u8, .int .u8, .int .u8, .int .u8]) (by kernel_rfl) (hval 2 28 v2 rfl rfl) h2
  obtain ⟨a, rfl, ha⟩ := h32_view _ o2
  have k3 := h3
  have lt3 : ∀ x ∈ p3, x.block < W.heap.size := by obtain ⟨m, hm⟩ := k3; exact DataW.trod_lt m _ _ _ hm
  obtain ⟨cs3, rfl, o3⟩ := came_agg (by kernel_rfl : kin Tryd.prog 12 28 = some [.int .u8, .int .u8, .int .u8, .int .u8, .int .u8, .int .u8, .int .u8, .int .u8, .int .u8, .int .u8, .int .u8, .int .u8, .int .u8, .int .u8, .int .u8, .int .u8, .int .u8, .int .u8, .int .u8, .int .u8, .int .u8, .int .u8, .int .u8, .int .u8, .int .u8, .int .u8, .int .u8, .int .u8, .int .u8, .int .u8, .int .u8, .int .u8]) (by kernel_rfl) (hval 3 28 v3 rfl rfl) h3
  obtain ⟨b, rfl, hb⟩ := h32_view _ o3
  have k4 := h4
  have lt4 : ∀ x ∈ p4, x.block < W.heap.size := by obtain ⟨m, hm⟩ := k4; exact DataW.trod_lt m _ _ _ hm
  obtain ⟨cs4, rfl, o4⟩ := came_agg (by kernel_rfl : kin Tryd.prog 12 38 = some (rep 32 (rep 32 [.int .u8]))) (by kernel_rfl) (hval 4 38 v4 rfl rfl) h4
  obtain ⟨P, rfl, hP⟩ := prf_view _ o4
  have k5 := h5
  have lt5 : ∀ x ∈ p5, x.block < W.heap.size := by obtain ⟨m, hm⟩ := k5; exact DataW.trod_lt m _ _ _ hm
  obtain ⟨cs5, rfl, o5⟩ := came_agg (by kernel_rfl : kin Tryd.prog 12 38 = some (rep 32 (rep 32 [.int .u8]))) (by kernel_rfl) (hval 5 38 v5 rfl rfl) h5
  obtain ⟨Q, rfl, hQ⟩ := prf_view _ o5
  clear hA0 hval0
  refine (proofOne_walk W x i a b P Q hx hi ha hb hP hQ ⟨hlB, hlK⟩).mono fun e W1 he => ?_
  obtain ⟨rfl, kp⟩ := he
  have bel := kp.below
  exact ⟨_, _, _, [], _, [], hW', trodAll_mk1 (shut_bool Tryd.underlying4 _), (trodAll_cons_mk (Below.trod laidOut (by kernel_rfl) (of_decide_eq_true (by kernel_rfl)) k0 bel lt0) (trodAll_cons_mk (Below.trod laidOut (by kernel_rfl) (of_decide_eq_true (by kernel_rfl)) k1 bel lt1) (trodAll_cons_mk (Below.trod laidOut (by kernel_rfl) (of_decide_eq_true (by kernel_rfl)) k2 bel lt2) (trodAll_cons_mk (Below.trod laidOut (by kernel_rfl) (of_decide_eq_true (by kernel_rfl)) k3 bel lt3) (trodAll_cons_mk (Below.trod laidOut (by kernel_rfl) (of_decide_eq_true (by kernel_rfl)) k4 bel lt4) (trodAll_cons_mk (Below.trod laidOut (by kernel_rfl) (of_decide_eq_true (by kernel_rfl)) k5 bel lt5) trodAll_mk0)))))), rfl, bel.frame _, fun h => by cases h⟩
theorem over : Rows.proofOneRow.holds Tryd.pinned (OpenSpec.ofChange Rows.proofOneSpec) :=
  OpenClaim.holds_of_wide 6 Tryd.f6 rfl rfl rfl rfl rfl rfl rfl ⟨rfl, rfl, rfl, rfl, rfl⟩ rfl rfl rfl rfl rfl (by kernel_rfl) Tryd.func6 (by kernel_rfl)
    (of_decide_eq_true (by kernel_rfl)) (by unfold Func.isWrapper; first | (rw [if_pos (by decide +kernel)]; kernel_rfl) | (rw [if_neg (by decide +kernel)]; exact ⟨rfl, rfl⟩))
    (fun os started H enc _ => lifted os started H enc)
theorem row_said : Rows.ProofOneSaid := over
/-- The given statement: the tied card. -/
theorem proved : Rows.ProofOneCardSaid :=
  Claim7.holds_tied_plain_at .later [] [.data, .data] true (true, "f3a87ac77957fc47a30dda113eac390d7de93072ae818413722cdcb589ec3993") false
    row_said (fun _ h => by cases h) (by kernel_rfl) (fun _ h => by cases h) proofOne_row_tie rfl ⟨rfl, rfl⟩ (by kernel_rfl) rfl
    (fun f fn hf hfn => by
      obtain rfl : f = 6 := Option.some.inj ((show Tryd.prog.funcNamed "sponsion/sponsionlaw11.ProofOne" = some 6 by kernel_rfl).symm.trans hf) |>.symm
      obtain rfl : fn = Tryd.f6 := (Option.some.inj (Tryd.func6.symm.trans hfn)).symm
      exact ⟨by kernel_rfl, fun j t ht => by
        rw [Tryd.params6] at ht
        have hm : t ∈ ([5, 23, 28, 28, 38, 38] : List TypeId) := by simpa using Array.mem_of_getElem? ht
        have hall : (([5, 23, 28, 28, 38, 38] : List TypeId).all fun u => !Tryd.prog.wantsStandIn u) = true := by kernel_rfl
        exact (show Tryd.prog.wantsStandIn t = false by simpa using List.all_eq_true.1 hall t hm)⟩)
    (by kernel_rfl)
#print axioms proved
end Go.Proofs.YtfgikoilgmddhaaDoor.proofOneDone
