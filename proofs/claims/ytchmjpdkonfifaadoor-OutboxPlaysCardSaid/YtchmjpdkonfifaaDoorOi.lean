/- Walks, written by gen.py off the translation's own print: each says what the Go function comes to. -/
import Derived.Test.YtchmjpdkonfifaaDoorOh
import Derived.Test.YtchmjpdkonfifaaDoorRnd
set_option linter.unusedVariables false
set_option linter.unusedSimpArgs false
namespace Go.Proofs.YtchmjpdkonfifaaDoor
open Go.Sx Go.RowKit
attribute [local irreducible] Ac Ex WL WC WX WP Gives sha

theorem getD_ok {its : List Itt} (h : ∀ t ∈ its, IttOk t) (k : Nat) : IttOk (its.getD k itt0) := by
  rw [List.getD]
  cases hq : its[k]? with
  | none => exact itt0_ok
  | some p => exact h p (List.mem_of_getElem? hq)
def encI (its : List Itt) (k : Nat) : Value := .agg (ittC (its.getD k itt0)).toArray
theorem encI_of {its : List Itt} {k : Nat} {p : Itt} (h : its[k]? = some p) : encI its k = .agg (ittC p).toArray := by simp [encI, h]

/- slices.Values[[]sponsion/api.Intent,sponsion/api.Intent]$1 -/
theorem vals_ok (w : World) (l gB c : Nat) (A : Option Addr) (its : List Itt) (J : Nat → World → Prop) (hb : its.length ≤ 1000000) (hok : ∀ t ∈ its, IttOk t) (hk : ∀ k W W', J k W → Keep nof W W' → J k W') (hJ : ∀ k W, J k W → W.cell? ⟨gB, 0, none⟩ = some (.slice A its.length c) ∧ Rd W A (its.flatMap ittC))
    (hy : ∀ k W, k < its.length → J k W → YieldAt (fen none) 0 Tryd.prog l #[encI its k] W fun e W' => e = .returned (.bool true) ∧ J (k + 1) W') (h0 : J 0 w) :
    Calls Tryd.prog 81 #[.func (.yield l) #[] #[], .pointer (some ⟨gB, 0, none⟩)] w fun e w1 => (∃ v, e = .returned v) ∧ J its.length w1 := by
  refine WI.enter (n := 16) Tryd.func81 rfl Tryd.ntmps81 rfl (env := [(0, .func (.yield l) #[] #[]), (1, .pointer (some ⟨gB, 0, none⟩))]) rfl ?_
  refine WI.seq ?_
  refine WI.region (NO.then_ NO.body') (by kernel_rfl) ?_
  refine WL.ex rfl rfl rfl (Ex.load ty27 rfl (hJ 0 w h0).1) ?_
  refine WL.ex rfl rfl rfl (Ex.len Tryd.underlying27 rfl) ?_
  refine WL.ex rfl rfl rfl (Ex.mv rfl) ?_
  refine WL.nil ?_
  refine WI.next (?_)
  refine WI.block ?_
  refine WI.loop (σ := Nat) (fun i => [(0, .func (.yield l) #[] #[]), (5, .slice A its.length c), (6, .int .i64 (its.length : Int)), (7, .int .i64 (i : Int))]) (fun i wr => i ≤ its.length ∧ J i wr) (fun i => its.length - i) (0) ?_ (.cons rfl (.cons rfl (.cons rfl (.cons rfl (.nil))))) ?_
  · exact ⟨by omega, h0⟩
  rintro i w4 ⟨hi, hJi⟩
  refine WI.seq ?_
  refine WI.region (NO.then_ (NO.then_ (NO.block NO.body'))) (by kernel_rfl) ?_
  refine WL.ex rfl rfl rfl (Ex.lss rfl rfl) ?_
  refine WL.nil ?_
  refine WI.next (?_)
  refine WI.seq ?_
  refine WI.cond_dec rfl (fun hc8 => ?_) (fun hc8 => ?_)
  · obtain ⟨p, hpi⟩ : ∃ p, its[i]? = some p := ⟨_, List.getElem?_eq_getElem (by omega)⟩
    have hpm := List.mem_of_getElem? hpi
    have hpo := hok p hpm
    have hr := (hJ i _ hJi).2
    obtain ⟨b0, o0, hA⟩ := hr.flat_plain hpm (by rw [itt_len hpo]; omega)
    subst hA
    have M9 := Mem.start w4 nof
    refine WI.skip ?_
    refine WI.next (?_)
    refine WI.seq ?_
    refine WI.block ?_
    refine WI.seq ?_
    refine WI.region (NO.then_ (NO.block (NO.then_ (NO.then_ (NO.block NO.body'))))) (by kernel_rfl) ?_
    refine WL.ex rfl rfl rfl (Ex.ia Tryd.underlying27 sz50 rfl rfl ⟨by omega, by omega⟩) ?_
    refine WL.ex rfl rfl rfl (Ex.loadA ty50 rfl (l := ittC p) (itt_len hpo) (Rd.flat hr (i := (i : Int).toNat) (fun t ht => itt_len (hok t ht)) (by simpa using hpi))) ?_
    refine WL.ac rfl rfl rfl (Ac.alloc M9 (l := ittC itt0) (by kernel_rfl)) ?_; rintro v8 w8 ⟨gx, rfl, hg8, K8, M8⟩
    refine WL.ac0 rfl rfl (Ac.stA M8 ty50 rfl rfl rfl (itt_len (by first | assumption | exact itt0_ok)) itt_one (i := 0) rfl (by first | (rw [itt_len (by first | assumption | exact itt0_ok), itt_len (by first | assumption | exact itt0_ok)]; decide) | (rw [itt_len (by first | assumption | exact itt0_ok)]; decide) | rw [itt_len (by first | assumption | exact itt0_ok)])) ?_; rintro v9 w9 ⟨K9, M9⟩
    try dsimp only [List.set] at M9
    rw [splice_all _ _ (by first | rw [itt_len (by first | assumption | exact itt0_ok), itt_len (by first | assumption | exact itt0_ok)] | rw [itt_len (by first | assumption | exact itt0_ok)])] at M9
    refine WL.nil ?_
    refine WI.next (?_)
    refine WI.seq ?_
    refine WI.regionN ?_
    refine WLI.ex rfl rfl rfl rfl (Ex.mv rfl) ?_
    refine WLI.ex rfl rfl rfl rfl (Ex.loadA ty50 rfl (l := ittC p) (itt_len hpo) (M9.rdw (i := 0) rfl)) ?_
    refine WLI.yield rfl rfl rfl (by have h1 := hy i w9 (by omega) (hk i _ _ hJi M9.keep); rw [encI_of hpi] at h1; exact h1) ?_
    rintro e w10 ⟨rfl, hJn⟩
    refine ⟨_, rfl, ?_⟩
    refine WLI.ex rfl rfl rfl rfl (Ex.not rfl) ?_
    refine WLI.nil ?_
    refine WI.next (?_)
    refine WI.no rfl ?_
    refine WI.skip ?_
    refine WI.normal_block (WI.next (?_))
    refine WI.region (NO.then_ (NO.block NO.body')) (by kernel_rfl) ?_
    refine WL.ex rfl rfl rfl (Ex.add rfl rfl (i64w _ (by omega) (by omega))) ?_
    refine WL.ex rfl rfl rfl (Ex.mv rfl) ?_
    refine WL.nil ?_
    refine WI.again (i + 1) ?_ ?_ (.cons rfl (.cons rfl (.cons rfl (.cons rfl (.nil)))))
    · (try dsimp only); omega
    · exact ⟨by omega, hJn⟩
  · obtain rfl : i = its.length := by omega
    refine WI.exit ?_
    refine WI.exit_then (WI.exit_then (WI.exit_block (?_)))
    refine WI.end0 rfl ?_
    exact ⟨⟨_, rfl⟩, hJi⟩

end Go.Proofs.YtchmjpdkonfifaaDoor
