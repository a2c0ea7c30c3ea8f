/-
  NARROWER THAN 'FOR EVERY INPUT', by the rows' own cells (each row's printed sentence says how): CallNames: laid.
  DERIVED. THE GIVEN ROWS OF THIS SEAT. 1 by the template 'for every input the law returns true; each argument reads behind the call as it read before'; 0 by the template 'total and deterministic' (their statements: YtnjbhhedaloghaaDoorTotals.lean).
  GIVEN WITH THE SEED: the statements are not yours to turn. If you find one false, say at which input.
  Laid BY PROGRAM, IN A SANDBOX (cutbox-rows.mjs): the forced cells as the released guide's own fill.sh prints them over the translation 105007215e345f32… (all of the seat's roots in one cut). By AI agents, Wed Nov 11 2026. No macro, syntax, notation, axiom, sorry.
-/
import Derived.Test.YtnjbhhedaloghaaDoorChecked
import GoSem.Claim
import GoSem.ClaimJoined
import GoSem.ClaimMapViews
import Derived.JoinedTies
import Derived.KernelRfl
namespace Go.Proofs.YtnjbhhedaloghaaDoor
/- THE CELL 'sum', in the pinned program and in every row, IS THE sha256 OF THE DUMP (.gsa) THAT YtnjbhhedaloghaaDoorProg.lean LOADS. Nothing in Lean hashes anything: it is a label: what it is worth is what the hold of that sum in a sandbox is worth. -/
noncomputable def Tryd.pinned : Pinned := { name := "ytnjbhhedaloghaadoor", sum := "105007215e345f32656cbfadd11690280b71601af9697204a16c96eea356490a", checked := Tryd.checked }
namespace Rows
def none {H : Type} : Left H := { results := [], args := [] }

/- WHAT THE LISTED PACKAGE-LEVEL VARIABLES READ AS WHEN THE CALL BEGINS. Each datum BY PROGRAM (the guide's laid-datum.mjs) off the statement by which the dump's own 'gosem.cut.vars' lays the variable. In a bare row this is a premise. The card (YtnjbhhedaloghaaDoorCards.lean) ties it to the program's text. -/
def laid_sponsion_call_names {H : Type} : DataW H := .agg [.lit (.string [109, 105, 110, 116]), .lit (.string [116, 114, 97, 110, 115, 102, 101, 114]), .lit (.string [100, 101, 112, 111, 115, 105, 116]), .lit (.string [98, 117, 114, 110]), .lit (.string [112, 111, 115, 116]), .lit (.string [116, 105, 99, 107, 101, 116]), .lit (.string [102, 105, 108, 108]), .lit (.string [99, 108, 97, 105, 109]), .lit (.string [100, 105, 115, 112, 117, 116, 101]), .lit (.string [114, 101, 115, 111, 108, 118, 101]), .lit (.string [114, 101, 102, 117, 116, 101]), .lit (.string [101, 120, 112, 111, 115, 101]), .lit (.string [100, 114, 111, 112]), .lit (.string [114, 101, 100, 101, 101, 109]), .lit (.string [99, 111, 108, 108, 101, 99, 116]), .lit (.string [106, 111, 105, 110]), .lit (.string [108, 101, 97, 118, 101])]
def laid_sponsion_call_signs {H : Type} : DataW H := .agg [.lit (.string [116, 97, 110]), .lit (.string [115, 116, 97, 110]), .lit (.string [116, 97, 110]), .lit (.string [116, 97, 110]), .lit (.string []), .lit (.string [105, 97]), .lit (.string [105, 110]), .lit (.string [105]), .lit (.string [105, 97]), .lit (.string [105, 98, 112]), .lit (.string [105, 97]), .lit (.string [105, 97, 111, 98, 112]), .lit (.string [105]), .lit (.string [105, 98, 112]), .lit (.string [105]), .lit (.string [116, 110]), .lit (.string [116, 110])]

/-- 'sponsionlaw08.CallNames': WHATEVER THE INPUT: true; the input reads as it did. -/
def callNamesSpec : ChangeSpec := { name := "callNames", fn := fun _ => fun
  | [d1, d2] => { results := [.lit (.bool true)], args := [d1, d2] }
  | _ => none }
def callNamesRow : OpenClaim := { program := "ytnjbhhedaloghaadoor", sum := "105007215e345f32656cbfadd11690280b71601af9697204a16c96eea356490a", func := "sponsion/sponsionlaw08.CallNames", spec := "callNames", named := ["sponsion/call.signs", "sponsion/call.names"], apart := false, laid := [("sponsion/call.names", laid_sponsion_call_names), ("sponsion/call.signs", laid_sponsion_call_signs)] }
def CallNamesSaid : Prop := callNamesRow.holds Tryd.pinned (OpenSpec.ofChange callNamesSpec)

/-- ITS FALSE NEIGHBOUR: 'it returns false'. Refute it at one input. -/
def callNamesWrong : ChangeSpec := { name := "callNames", fn := fun _ => fun
  | [d1, d2] => { results := [.lit (.bool false)], args := [d1, d2] }
  | _ => none }
def CallNamesWrongFalsely : Prop := callNamesRow.holds Tryd.pinned (OpenSpec.ofChange callNamesWrong)

/- THE SECOND FORM. 'bulk': how many values and letters a reading holds, each counted each time it is reached (what is shared counts as often as it is met; a slice's spare places count too). A statement '..UptoSaid' is the law's where the arguments, and the package variables that the reading takes, are together of bulk at most 1048576: NARROWER than '..Said'. Prove '..Said' where nothing that the law and all that it calls make is longer than what came in: it says more and counts as full. Else prove '..UptoSaid'. A law counts once. -/
mutual
def uptoBulk {H : Type} : DataW H → Nat
  | .lit (.string bytes) => bytes.length + 1
  | .lit _ => 1
  | .nil => 1
  | .ptr d => uptoBulk d + 1
  | .slice elems spare => uptoBulkAll elems + uptoBulkAll spare + 1
  | .agg parts => uptoBulkAll parts + 1
  | .iface _ d => uptoBulk d + 1
  | .map entries => uptoBulkEntries entries + 1
  | .held _ => 1
def uptoBulkAll {H : Type} : List (DataW H) → Nat
  | [] => 0
  | d :: r => uptoBulk d + uptoBulkAll r
def uptoBulkEntries {H : Type} : List (Lit × DataW H) → Nat
  | [] => 0
  | x :: r => uptoBulkEntry x + uptoBulkEntries r
def uptoBulkEntry {H : Type} : Lit × DataW H → Nat
  | (.string bytes, d) => bytes.length + uptoBulk d + 1
  | (_, d) => uptoBulk d + 1
 end
def uptoSmall : (H : Type) → List (DataW H) → Bool := fun _ ds => decide (uptoBulkAll ds ≤ 1048576)
def OpenSpec.upto (s : _root_.Go.ChangeSpec) : _root_.Go.OpenSpec := { _root_.Go.OpenSpec.ofChange s with cond := some uptoSmall }

/-- 'sponsionlaw08.CallNames', WHERE WHAT IT READS IS OF BULK AT MOST 1048576: true; the input reads as it did. -/
def callNamesUptoRow : OpenClaim := { program := "ytnjbhhedaloghaadoor", sum := "105007215e345f32656cbfadd11690280b71601af9697204a16c96eea356490a", func := "sponsion/sponsionlaw08.CallNames", spec := "callNames", named := ["sponsion/call.signs", "sponsion/call.names"], apart := false, laid := [("sponsion/call.names", laid_sponsion_call_names), ("sponsion/call.signs", laid_sponsion_call_signs)], narrowed := true }
def CallNamesUptoSaid : Prop := callNamesUptoRow.holds Tryd.pinned (OpenSpec.upto callNamesSpec)

end Rows
end Go.Proofs.YtnjbhhedaloghaaDoor
