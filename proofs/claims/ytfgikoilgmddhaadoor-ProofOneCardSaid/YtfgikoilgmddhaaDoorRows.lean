/-
  NARROWER THAN 'FOR EVERY INPUT', by the rows' own cells (each row's printed sentence says how): TreeAgain: laid · ProofMakes: laid · TreeNodes: laid · ProofOne: laid · TreePlays: laid · TreeFull: laid · ProofClimbs: laid · ProofStands: laid.
  DERIVED. THE GIVEN ROWS OF THIS SEAT. 8 by the template 'for every input the law returns true; each argument reads behind the call as it read before'; 0 by the template 'total and deterministic' (their statements: YtfgikoilgmddhaaDoorTotals.lean).
  GIVEN WITH THE SEED: the statements are not yours to turn. If you find one false, say at which input.
  Laid BY PROGRAM, IN A SANDBOX (cutbox-rows.mjs): the forced cells as the released guide's own fill.sh prints them over the translation c6fe52cc085dd4fb… (all of the seat's roots in one cut). By AI agents, Wed Nov 11 2026. No macro, syntax, notation, axiom, sorry.
-/
import Derived.Test.YtfgikoilgmddhaaDoorChecked
import GoSem.Claim
import GoSem.ClaimJoined
import GoSem.ClaimMapViews
import Derived.JoinedTies
import Derived.KernelRfl
namespace Go.Proofs.YtfgikoilgmddhaaDoor
/- THE CELL 'sum', in the pinned program and in every row, IS THE sha256 OF THE DUMP (.gsa) THAT YtfgikoilgmddhaaDoorProg.lean LOADS. Nothing in Lean hashes anything: it is a label: what it is worth is what the hold of that sum in a sandbox is worth. -/
noncomputable def Tryd.pinned : Pinned := { name := "ytfgikoilgmddhaadoor", sum := "c6fe52cc085dd4fbdd16a4126fac8b8673610b41493819d690872cbb20e22a64", checked := Tryd.checked }
namespace Rows
def none {H : Type} : Left H := { results := [], args := [] }

/- WHAT THE LISTED PACKAGE-LEVEL VARIABLES READ AS WHEN THE CALL BEGINS. Each datum BY PROGRAM (the guide's laid-datum.mjs) off the statement by which the dump's own 'gosem.cut.vars' lays the variable. In a bare row this is a premise. The card (YtfgikoilgmddhaaDoorCards.lean) ties it to the program's text. -/
def laid_sponsion_digest_begin {H : Type} : DataW H := .agg [.lit (.int .u32 1779033703), .lit (.int .u32 3144134277), .lit (.int .u32 1013904242), .lit (.int .u32 2773480762), .lit (.int .u32 1359893119), .lit (.int .u32 2600822924), .lit (.int .u32 528734635), .lit (.int .u32 1541459225)]
def laid_sponsion_digest_rounds {H : Type} : DataW H := .agg [.lit (.int .u32 1116352408), .lit (.int .u32 1899447441), .lit (.int .u32 3049323471), .lit (.int .u32 3921009573), .lit (.int .u32 961987163), .lit (.int .u32 1508970993), .lit (.int .u32 2453635748), .lit (.int .u32 2870763221), .lit (.int .u32 3624381080), .lit (.int .u32 310598401), .lit (.int .u32 607225278), .lit (.int .u32 1426881987), .lit (.int .u32 1925078388), .lit (.int .u32 2162078206), .lit (.int .u32 2614888103), .lit (.int .u32 3248222580), .lit (.int .u32 3835390401), .lit (.int .u32 4022224774), .lit (.int .u32 264347078), .lit (.int .u32 604807628), .lit (.int .u32 770255983), .lit (.int .u32 1249150122), .lit (.int .u32 1555081692), .lit (.int .u32 1996064986), .lit (.int .u32 2554220882), .lit (.int .u32 2821834349), .lit (.int .u32 2952996808), .lit (.int .u32 3210313671), .lit (.int .u32 3336571891), .lit (.int .u32 3584528711), .lit (.int .u32 113926993), .lit (.int .u32 338241895), .lit (.int .u32 666307205), .lit (.int .u32 773529912), .lit (.int .u32 1294757372), .lit (.int .u32 1396182291), .lit (.int .u32 1695183700), .lit (.int .u32 1986661051), .lit (.int .u32 2177026350), .lit (.int .u32 2456956037), .lit (.int .u32 2730485921), .lit (.int .u32 2820302411), .lit (.int .u32 3259730800), .lit (.int .u32 3345764771), .lit (.int .u32 3516065817), .lit (.int .u32 3600352804), .lit (.int .u32 4094571909), .lit (.int .u32 275423344), .lit (.int .u32 430227734), .lit (.int .u32 506948616), .lit (.int .u32 659060556), .lit (.int .u32 883997877), .lit (.int .u32 958139571), .lit (.int .u32 1322822218), .lit (.int .u32 1537002063), .lit (.int .u32 1747873779), .lit (.int .u32 1955562222), .lit (.int .u32 2024104815), .lit (.int .u32 2227730452), .lit (.int .u32 2361852424), .lit (.int .u32 2428436474), .lit (.int .u32 2756734187), .lit (.int .u32 3204031479), .lit (.int .u32 3329325298)]
def laid_sponsion_sponsionref05_rounds {H : Type} : DataW H := .agg [.lit (.int .u32 1116352408), .lit (.int .u32 1899447441), .lit (.int .u32 3049323471), .lit (.int .u32 3921009573), .lit (.int .u32 961987163), .lit (.int .u32 1508970993), .lit (.int .u32 2453635748), .lit (.int .u32 2870763221), .lit (.int .u32 3624381080), .lit (.int .u32 310598401), .lit (.int .u32 607225278), .lit (.int .u32 1426881987), .lit (.int .u32 1925078388), .lit (.int .u32 2162078206), .lit (.int .u32 2614888103), .lit (.int .u32 3248222580), .lit (.int .u32 3835390401), .lit (.int .u32 4022224774), .lit (.int .u32 264347078), .lit (.int .u32 604807628), .lit (.int .u32 770255983), .lit (.int .u32 1249150122), .lit (.int .u32 1555081692), .lit (.int .u32 1996064986), .lit (.int .u32 2554220882), .lit (.int .u32 2821834349), .lit (.int .u32 2952996808), .lit (.int .u32 3210313671), .lit (.int .u32 3336571891), .lit (.int .u32 3584528711), .lit (.int .u32 113926993), .lit (.int .u32 338241895), .lit (.int .u32 666307205), .lit (.int .u32 773529912), .lit (.int .u32 1294757372), .lit (.int .u32 1396182291), .lit (.int .u32 1695183700), .lit (.int .u32 1986661051), .lit (.int .u32 2177026350), .lit (.int .u32 2456956037), .lit (.int .u32 2730485921), .lit (.int .u32 2820302411), .lit (.int .u32 3259730800), .lit (.int .u32 3345764771), .lit (.int .u32 3516065817), .lit (.int .u32 3600352804), .lit (.int .u32 4094571909), .lit (.int .u32 275423344), .lit (.int .u32 430227734), .lit (.int .u32 506948616), .lit (.int .u32 659060556), .lit (.int .u32 883997877), .lit (.int .u32 958139571), .lit (.int .u32 1322822218), .lit (.int .u32 1537002063), .lit (.int .u32 1747873779), .lit (.int .u32 1955562222), .lit (.int .u32 2024104815), .lit (.int .u32 2227730452), .lit (.int .u32 2361852424), .lit (.int .u32 2428436474), .lit (.int .u32 2756734187), .lit (.int .u32 3204031479), .lit (.int .u32 3329325298)]

/-- 'sponsionlaw10.TreeAgain': WHATEVER THE INPUT: true; the input reads as it did. -/
def treeAgainSpec : ChangeSpec := { name := "treeAgain", fn := fun _ => fun
  | [d1, d2, d3] => { results := [.lit (.bool true)], args := [d1, d2, d3] }
  | _ => none }
def treeAgainRow : OpenClaim := { program := "ytfgikoilgmddhaadoor", sum := "c6fe52cc085dd4fbdd16a4126fac8b8673610b41493819d690872cbb20e22a64", func := "sponsion/sponsionlaw10.TreeAgain", spec := "treeAgain", named := ["sponsion/digest.begin", "sponsion/digest.rounds"], apart := false, laid := [("sponsion/digest.begin", laid_sponsion_digest_begin), ("sponsion/digest.rounds", laid_sponsion_digest_rounds)] }
def TreeAgainSaid : Prop := treeAgainRow.holds Tryd.pinned (OpenSpec.ofChange treeAgainSpec)

/-- ITS FALSE NEIGHBOUR: 'it returns false'. Refute it at one input. -/
def treeAgainWrong : ChangeSpec := { name := "treeAgain", fn := fun _ => fun
  | [d1, d2, d3] => { results := [.lit (.bool false)], args := [d1, d2, d3] }
  | _ => none }
def TreeAgainWrongFalsely : Prop := treeAgainRow.holds Tryd.pinned (OpenSpec.ofChange treeAgainWrong)

/-- 'sponsionlaw11.ProofMakes': WHATEVER THE INPUT: true; the input reads as it did. -/
def proofMakesSpec : ChangeSpec := { name := "proofMakes", fn := fun _ => fun
  | [d1, d2, d3, d4] => { results := [.lit (.bool true)], args := [d1, d2, d3, d4] }
  | _ => none }
def proofMakesRow : OpenClaim := { program := "ytfgikoilgmddhaadoor", sum := "c6fe52cc085dd4fbdd16a4126fac8b8673610b41493819d690872cbb20e22a64", func := "sponsion/sponsionlaw11.ProofMakes", spec := "proofMakes", recurses := true, named := ["sponsion/digest.begin", "sponsion/digest.rounds", "sponsion/sponsionref05.rounds"], apart := false, laid := [("sponsion/sponsionref05.rounds", laid_sponsion_sponsionref05_rounds), ("sponsion/digest.begin", laid_sponsion_digest_begin), ("sponsion/digest.rounds", laid_sponsion_digest_rounds)] }
def ProofMakesSaid : Prop := proofMakesRow.holds Tryd.pinned (OpenSpec.ofChange proofMakesSpec)

/-- ITS FALSE NEIGHBOUR: 'it returns false'. Refute it at one input. -/
def proofMakesWrong : ChangeSpec := { name := "proofMakes", fn := fun _ => fun
  | [d1, d2, d3, d4] => { results := [.lit (.bool false)], args := [d1, d2, d3, d4] }
  | _ => none }
def ProofMakesWrongFalsely : Prop := proofMakesRow.holds Tryd.pinned (OpenSpec.ofChange proofMakesWrong)

/-- 'sponsionlaw10.TreeNodes': WHATEVER THE INPUT: true; the input reads as it did. -/
def treeNodesSpec : ChangeSpec := { name := "treeNodes", fn := fun _ => fun
  | [d1, d2, d3, d4, d5] => { results := [.lit (.bool true)], args := [d1, d2, d3, d4, d5] }
  | _ => none }
def treeNodesRow : OpenClaim := { program := "ytfgikoilgmddhaadoor", sum := "c6fe52cc085dd4fbdd16a4126fac8b8673610b41493819d690872cbb20e22a64", func := "sponsion/sponsionlaw10.TreeNodes", spec := "treeNodes", recurses := true, named := ["sponsion/digest.begin", "sponsion/digest.rounds", "sponsion/sponsionref05.rounds"], apart := false, laid := [("sponsion/sponsionref05.rounds", laid_sponsion_sponsionref05_rounds), ("sponsion/digest.begin", laid_sponsion_digest_begin), ("sponsion/digest.rounds", laid_sponsion_digest_rounds)] }
def TreeNodesSaid : Prop := treeNodesRow.holds Tryd.pinned (OpenSpec.ofChange treeNodesSpec)

/-- ITS FALSE NEIGHBOUR: 'it returns false'. Refute it at one input. -/
def treeNodesWrong : ChangeSpec := { name := "treeNodes", fn := fun _ => fun
  | [d1, d2, d3, d4, d5] => { results := [.lit (.bool false)], args := [d1, d2, d3, d4, d5] }
  | _ => none }
def TreeNodesWrongFalsely : Prop := treeNodesRow.holds Tryd.pinned (OpenSpec.ofChange treeNodesWrong)

/-- 'sponsionlaw11.ProofOne': WHATEVER THE INPUT: true; the input reads as it did. -/
def proofOneSpec : ChangeSpec := { name := "proofOne", fn := fun _ => fun
  | [d1, d2, d3, d4, d5, d6] => { results := [.lit (.bool true)], args := [d1, d2, d3, d4, d5, d6] }
  | _ => none }
def proofOneRow : OpenClaim := { program := "ytfgikoilgmddhaadoor", sum := "c6fe52cc085dd4fbdd16a4126fac8b8673610b41493819d690872cbb20e22a64", func := "sponsion/sponsionlaw11.ProofOne", spec := "proofOne", named := ["sponsion/digest.begin", "sponsion/digest.rounds"], apart := false, laid := [("sponsion/digest.begin", laid_sponsion_digest_begin), ("sponsion/digest.rounds", laid_sponsion_digest_rounds)] }
def ProofOneSaid : Prop := proofOneRow.holds Tryd.pinned (OpenSpec.ofChange proofOneSpec)

/-- ITS FALSE NEIGHBOUR: 'it returns false'. Refute it at one input. -/
def proofOneWrong : ChangeSpec := { name := "proofOne", fn := fun _ => fun
  | [d1, d2, d3, d4, d5, d6] => { results := [.lit (.bool false)], args := [d1, d2, d3, d4, d5, d6] }
  | _ => none }
def ProofOneWrongFalsely : Prop := proofOneRow.holds Tryd.pinned (OpenSpec.ofChange proofOneWrong)

/-- 'sponsionlaw10.TreePlays': WHATEVER THE INPUT: true; the input reads as it did. -/
def treePlaysSpec : ChangeSpec := { name := "treePlays", fn := fun _ => fun
  | [d1, d2, d3] => { results := [.lit (.bool true)], args := [d1, d2, d3] }
  | _ => none }
def treePlaysRow : OpenClaim := { program := "ytfgikoilgmddhaadoor", sum := "c6fe52cc085dd4fbdd16a4126fac8b8673610b41493819d690872cbb20e22a64", func := "sponsion/sponsionlaw10.TreePlays", spec := "treePlays", recurses := true, named := ["sponsion/digest.begin", "sponsion/digest.rounds", "sponsion/sponsionref05.rounds"], apart := false, laid := [("sponsion/sponsionref05.rounds", laid_sponsion_sponsionref05_rounds), ("sponsion/digest.begin", laid_sponsion_digest_begin), ("sponsion/digest.rounds", laid_sponsion_digest_rounds)] }
def TreePlaysSaid : Prop := treePlaysRow.holds Tryd.pinned (OpenSpec.ofChange treePlaysSpec)

/-- ITS FALSE NEIGHBOUR: 'it returns false'. Refute it at one input. -/
def treePlaysWrong : ChangeSpec := { name := "treePlays", fn := fun _ => fun
  | [d1, d2, d3] => { results := [.lit (.bool false)], args := [d1, d2, d3] }
  | _ => none }
def TreePlaysWrongFalsely : Prop := treePlaysRow.holds Tryd.pinned (OpenSpec.ofChange treePlaysWrong)

/-- 'sponsionlaw10.TreeFull': WHATEVER THE INPUT: true; the input reads as it did. -/
def treeFullSpec : ChangeSpec := { name := "treeFull", fn := fun _ => fun
  | [d1, d2] => { results := [.lit (.bool true)], args := [d1, d2] }
  | _ => none }
def treeFullRow : OpenClaim := { program := "ytfgikoilgmddhaadoor", sum := "c6fe52cc085dd4fbdd16a4126fac8b8673610b41493819d690872cbb20e22a64", func := "sponsion/sponsionlaw10.TreeFull", spec := "treeFull", named := ["sponsion/digest.begin", "sponsion/digest.rounds"], apart := false, laid := [("sponsion/digest.begin", laid_sponsion_digest_begin), ("sponsion/digest.rounds", laid_sponsion_digest_rounds)] }
def TreeFullSaid : Prop := treeFullRow.holds Tryd.pinned (OpenSpec.ofChange treeFullSpec)

/-- ITS FALSE NEIGHBOUR: 'it returns false'. Refute it at one input. -/
def treeFullWrong : ChangeSpec := { name := "treeFull", fn := fun _ => fun
  | [d1, d2] => { results := [.lit (.bool false)], args := [d1, d2] }
  | _ => none }
def TreeFullWrongFalsely : Prop := treeFullRow.holds Tryd.pinned (OpenSpec.ofChange treeFullWrong)

/-- 'sponsionlaw11.ProofClimbs': WHATEVER THE INPUT: true; the input reads as it did. -/
def proofClimbsSpec : ChangeSpec := { name := "proofClimbs", fn := fun _ => fun
  | [d1, d2, d3, d4, d5, d6] => { results := [.lit (.bool true)], args := [d1, d2, d3, d4, d5, d6] }
  | _ => none }
def proofClimbsRow : OpenClaim := { program := "ytfgikoilgmddhaadoor", sum := "c6fe52cc085dd4fbdd16a4126fac8b8673610b41493819d690872cbb20e22a64", func := "sponsion/sponsionlaw11.ProofClimbs", spec := "proofClimbs", named := ["sponsion/digest.begin", "sponsion/digest.rounds", "sponsion/sponsionref05.rounds"], apart := false, laid := [("sponsion/sponsionref05.rounds", laid_sponsion_sponsionref05_rounds), ("sponsion/digest.begin", laid_sponsion_digest_begin), ("sponsion/digest.rounds", laid_sponsion_digest_rounds)] }
def ProofClimbsSaid : Prop := proofClimbsRow.holds Tryd.pinned (OpenSpec.ofChange proofClimbsSpec)

/-- ITS FALSE NEIGHBOUR: 'it returns false'. Refute it at one input. -/
def proofClimbsWrong : ChangeSpec := { name := "proofClimbs", fn := fun _ => fun
  | [d1, d2, d3, d4, d5, d6] => { results := [.lit (.bool false)], args := [d1, d2, d3, d4, d5, d6] }
  | _ => none }
def ProofClimbsWrongFalsely : Prop := proofClimbsRow.holds Tryd.pinned (OpenSpec.ofChange proofClimbsWrong)

/-- 'sponsionlaw11.ProofStands': WHATEVER THE INPUT: true; the input reads as it did. -/
def proofStandsSpec : ChangeSpec := { name := "proofStands", fn := fun _ => fun
  | [d1, d2, d3, d4] => { results := [.lit (.bool true)], args := [d1, d2, d3, d4] }
  | _ => none }
def proofStandsRow : OpenClaim := { program := "ytfgikoilgmddhaadoor", sum := "c6fe52cc085dd4fbdd16a4126fac8b8673610b41493819d690872cbb20e22a64", func := "sponsion/sponsionlaw11.ProofStands", spec := "proofStands", named := ["sponsion/digest.begin", "sponsion/digest.rounds"], apart := false, laid := [("sponsion/digest.begin", laid_sponsion_digest_begin), ("sponsion/digest.rounds", laid_sponsion_digest_rounds)] }
def ProofStandsSaid : Prop := proofStandsRow.holds Tryd.pinned (OpenSpec.ofChange proofStandsSpec)

/-- ITS FALSE NEIGHBOUR: 'it returns false'. Refute it at one input. -/
def proofStandsWrong : ChangeSpec := { name := "proofStands", fn := fun _ => fun
  | [d1, d2, d3, d4] => { results := [.lit (.bool false)], args := [d1, d2, d3, d4] }
  | _ => none }
def ProofStandsWrongFalsely : Prop := proofStandsRow.holds Tryd.pinned (OpenSpec.ofChange proofStandsWrong)

/- THE SECOND FORM. 'bulk': how many values and letters a reading holds, each counted each time it is reached (what is shared counts as often as it is met; a slice's spare places count too). A statement '..UptoSaid' is the law's where the arguments, and the package variables that the reading takes, are together of bulk at most 1048576: NARROWER than '..Said'. Prove '..Said' where nothing that the law and all that it calls make is longer than what came in: it says more and counts as full. Else prove '..UptoSaid'. A law counts once. -/
mutual
def uptoBulk {H : Type} : DataW H → Nat
  | .lit (.string bytes) => bytes.length + 1
  | .lit _ => 1
  | .nil => 1
  | .ptr d => uptoBulk d + 1
  | .slice elems spare => uptoBulkAll elems + uptoBulkAll spare + 1
  | .agg parts => uptoBulkAll parts + 1
  | .iface _ d => uptoBulk d + 1
  | .map entries => uptoBulkEntries entries + 1
  | .held _ => 1
def uptoBulkAll {H : Type} : List (DataW H) → Nat
  | [] => 0
  | d :: r => uptoBulk d + uptoBulkAll r
def uptoBulkEntries {H : Type} : List (Lit × DataW H) → Nat
  | [] => 0
  | x :: r => uptoBulkEntry x + uptoBulkEntries r
def uptoBulkEntry {H : Type} : Lit × DataW H → Nat
  | (.string bytes, d) => bytes.length + uptoBulk d + 1
  | (_, d) => uptoBulk d + 1
 end
def uptoSmall : (H : Type) → List (DataW H) → Bool := fun _ ds => decide (uptoBulkAll ds ≤ 1048576)
def OpenSpec.upto (s : _root_.Go.ChangeSpec) : _root_.Go.OpenSpec := { _root_.Go.OpenSpec.ofChange s with cond := some uptoSmall }

/-- 'sponsionlaw10.TreeAgain', WHERE WHAT IT READS IS OF BULK AT MOST 1048576: true; the input reads as it did. -/
def treeAgainUptoRow : OpenClaim := { program := "ytfgikoilgmddhaadoor", sum := "c6fe52cc085dd4fbdd16a4126fac8b8673610b41493819d690872cbb20e22a64", func := "sponsion/sponsionlaw10.TreeAgain", spec := "treeAgain", named := ["sponsion/digest.begin", "sponsion/digest.rounds"], apart := false, laid := [("sponsion/digest.begin", laid_sponsion_digest_begin), ("sponsion/digest.rounds", laid_sponsion_digest_rounds)], narrowed := true }
def TreeAgainUptoSaid : Prop := treeAgainUptoRow.holds Tryd.pinned (OpenSpec.upto treeAgainSpec)

/-- 'sponsionlaw11.ProofMakes', WHERE WHAT IT READS IS OF BULK AT MOST 1048576: true; the input reads as it did. -/
def proofMakesUptoRow : OpenClaim := { program := "ytfgikoilgmddhaadoor", sum := "c6fe52cc085dd4fbdd16a4126fac8b8673610b41493819d690872cbb20e22a64", func := "sponsion/sponsionlaw11.ProofMakes", spec := "proofMakes", recurses := true, named := ["sponsion/digest.begin", "sponsion/digest.rounds", "sponsion/sponsionref05.rounds"], apart := false, laid := [("sponsion/sponsionref05.rounds", laid_sponsion_sponsionref05_rounds), ("sponsion/digest.begin", laid_sponsion_digest_begin), ("sponsion/digest.rounds", laid_sponsion_digest_rounds)], narrowed := true }
def ProofMakesUptoSaid : Prop := proofMakesUptoRow.holds Tryd.pinned (OpenSpec.upto proofMakesSpec)

/-- 'sponsionlaw10.TreeNodes', WHERE WHAT IT READS IS OF BULK AT MOST 1048576: true; the input reads as it did. -/
def treeNodesUptoRow : OpenClaim := { program := "ytfgikoilgmddhaadoor", sum := "c6fe52cc085dd4fbdd16a4126fac8b8673610b41493819d690872cbb20e22a64", func := "sponsion/sponsionlaw10.TreeNodes", spec := "treeNodes", recurses := true, named := ["sponsion/digest.begin", "sponsion/digest.rounds", "sponsion/sponsionref05.rounds"], apart := false, laid := [("sponsion/sponsionref05.rounds", laid_sponsion_sponsionref05_rounds), ("sponsion/digest.begin", laid_sponsion_digest_begin), ("sponsion/digest.rounds", laid_sponsion_digest_rounds)], narrowed := true }
def TreeNodesUptoSaid : Prop := treeNodesUptoRow.holds Tryd.pinned (OpenSpec.upto treeNodesSpec)

/-- 'sponsionlaw11.ProofOne', WHERE WHAT IT READS IS OF BULK AT MOST 1048576: true; the input reads as it did. -/
def proofOneUptoRow : OpenClaim := { program := "ytfgikoilgmddhaadoor", sum := "c6fe52cc085dd4fbdd16a4126fac8b8673610b41493819d690872cbb20e22a64", func := "sponsion/sponsionlaw11.ProofOne", spec := "proofOne", named := ["sponsion/digest.begin", "sponsion/digest.rounds"], apart := false, laid := [("sponsion/digest.begin", laid_sponsion_digest_begin), ("sponsion/digest.rounds", laid_sponsion_digest_rounds)], narrowed := true }
def ProofOneUptoSaid : Prop := proofOneUptoRow.holds Tryd.pinned (OpenSpec.upto proofOneSpec)

/-- 'sponsionlaw10.TreePlays', WHERE WHAT IT READS IS OF BULK AT MOST 1048576: true; the input reads as it did. -/
def treePlaysUptoRow : OpenClaim := { program := "ytfgikoilgmddhaadoor", sum := "c6fe52cc085dd4fbdd16a4126fac8b8673610b41493819d690872cbb20e22a64", func := "sponsion/sponsionlaw10.TreePlays", spec := "treePlays", recurses := true, named := ["sponsion/digest.begin", "sponsion/digest.rounds", "sponsion/sponsionref05.rounds"], apart := false, laid := [("sponsion/sponsionref05.rounds", laid_sponsion_sponsionref05_rounds), ("sponsion/digest.begin", laid_sponsion_digest_begin), ("sponsion/digest.rounds", laid_sponsion_digest_rounds)], narrowed := true }
def TreePlaysUptoSaid : Prop := treePlaysUptoRow.holds Tryd.pinned (OpenSpec.upto treePlaysSpec)

/-- 'sponsionlaw10.TreeFull', WHERE WHAT IT READS IS OF BULK AT MOST 1048576: true; the input reads as it did. -/
def treeFullUptoRow : OpenClaim := { program := "ytfgikoilgmddhaadoor", sum := "c6fe52cc085dd4fbdd16a4126fac8b8673610b41493819d690872cbb20e22a64", func := "sponsion/sponsionlaw10.TreeFull", spec := "treeFull", named := ["sponsion/digest.begin", "sponsion/digest.rounds"], apart := false, laid := [("sponsion/digest.begin", laid_sponsion_digest_begin), ("sponsion/digest.rounds", laid_sponsion_digest_rounds)], narrowed := true }
def TreeFullUptoSaid : Prop := treeFullUptoRow.holds Tryd.pinned (OpenSpec.upto treeFullSpec)

/-- 'sponsionlaw11.ProofClimbs', WHERE WHAT IT READS IS OF BULK AT MOST 1048576: true; the input reads as it did. -/
def proofClimbsUptoRow : OpenClaim := { program := "ytfgikoilgmddhaadoor", sum := "c6fe52cc085dd4fbdd16a4126fac8b8673610b41493819d690872cbb20e22a64", func := "sponsion/sponsionlaw11.ProofClimbs", spec := "proofClimbs", named := ["sponsion/digest.begin", "sponsion/digest.rounds", "sponsion/sponsionref05.rounds"], apart := false, laid := [("sponsion/sponsionref05.rounds", laid_sponsion_sponsionref05_rounds), ("sponsion/digest.begin", laid_sponsion_digest_begin), ("sponsion/digest.rounds", laid_sponsion_digest_rounds)], narrowed := true }
def ProofClimbsUptoSaid : Prop := proofClimbsUptoRow.holds Tryd.pinned (OpenSpec.upto proofClimbsSpec)

/-- 'sponsionlaw11.ProofStands', WHERE WHAT IT READS IS OF BULK AT MOST 1048576: true; the input reads as it did. -/
def proofStandsUptoRow : OpenClaim := { program := "ytfgikoilgmddhaadoor", sum := "c6fe52cc085dd4fbdd16a4126fac8b8673610b41493819d690872cbb20e22a64", func := "sponsion/sponsionlaw11.ProofStands", spec := "proofStands", named := ["sponsion/digest.begin", "sponsion/digest.rounds"], apart := false, laid := [("sponsion/digest.begin", laid_sponsion_digest_begin), ("sponsion/digest.rounds", laid_sponsion_digest_rounds)], narrowed := true }
def ProofStandsUptoSaid : Prop := proofStandsUptoRow.holds Tryd.pinned (OpenSpec.upto proofStandsSpec)

end Rows
end Go.Proofs.YtfgikoilgmddhaaDoor
