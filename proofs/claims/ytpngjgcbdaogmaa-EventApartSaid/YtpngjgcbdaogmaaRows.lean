/-
  No cell of these rows narrows 'for every input' (looked for: loops, veiled, ifaces, maps, wideKeys, modest, calm, conditions, laid).
  DERIVED. THE GIVEN ROWS OF THIS SEAT. 10 by the template 'for every input the law returns true; each argument reads behind the call as it read before'; 0 by the template 'total and deterministic' (their statements: YtpngjgcbdaogmaaTotals.lean).
  GIVEN WITH THE SEED: the statements are not yours to turn. If you find one false, say at which input.
  Laid BY PROGRAM, IN A SANDBOX (cutbox-rows.mjs): the forced cells as the released guide's own fill.sh prints them over the translation b803d2b3aabfa0e1… (all of the seat's roots in one cut). By AI agents, Wed Nov 11 2026. No macro, syntax, notation, axiom, sorry.
-/
import Derived.Test.YtpngjgcbdaogmaaChecked
import GoSem.Claim
import GoSem.ClaimJoined
import GoSem.ClaimMapViews
import Derived.JoinedTies
import Derived.KernelRfl
namespace Go.Proofs.Ytpngjgcbdaogmaa
/- THE CELL 'sum', in the pinned program and in every row, IS THE sha256 OF THE DUMP (.gsa) THAT YtpngjgcbdaogmaaProg.lean LOADS. Nothing in Lean hashes anything: it is a label: what it is worth is what the hold of that sum in a sandbox is worth. -/
noncomputable def Try.pinned : Pinned := { name := "ytpngjgcbdaogmaa", sum := "b803d2b3aabfa0e18ec90bcc0440fccd41aa426a7ccc191bf04a7b2a3d64ea62", checked := Try.checked }
namespace Rows
def none {H : Type} : Left H := { results := [], args := [] }

/-- 'sponsionlaw06.DomainApart': WHATEVER THE INPUT: true; the input reads as it did. -/
def domainApartSpec : ChangeSpec := { name := "domainApart", fn := fun _ => fun
  | [d1, d2, d3, d4] => { results := [.lit (.bool true)], args := [d1, d2, d3, d4] }
  | _ => none }
def domainApartRow : OpenClaim := { program := "ytpngjgcbdaogmaa", sum := "b803d2b3aabfa0e18ec90bcc0440fccd41aa426a7ccc191bf04a7b2a3d64ea62", func := "sponsion/sponsionlaw06.DomainApart", spec := "domainApart", apart := false }
def DomainApartSaid : Prop := domainApartRow.holds Try.pinned (OpenSpec.ofChange domainApartSpec)

/-- ITS FALSE NEIGHBOUR: 'it returns false'. Refute it at one input. -/
def domainApartWrong : ChangeSpec := { name := "domainApart", fn := fun _ => fun
  | [d1, d2, d3, d4] => { results := [.lit (.bool false)], args := [d1, d2, d3, d4] }
  | _ => none }
def DomainApartWrongFalsely : Prop := domainApartRow.holds Try.pinned (OpenSpec.ofChange domainApartWrong)

/-- 'sponsionlaw04.PackWrites': WHATEVER THE INPUT: true; the input reads as it did. -/
def packWritesSpec : ChangeSpec := { name := "packWrites", fn := fun _ => fun
  | [d] => { results := [.lit (.bool true)], args := [d] }
  | _ => none }
def packWritesRow : OpenClaim := { program := "ytpngjgcbdaogmaa", sum := "b803d2b3aabfa0e18ec90bcc0440fccd41aa426a7ccc191bf04a7b2a3d64ea62", func := "sponsion/sponsionlaw04.PackWrites", spec := "packWrites", apart := false }
def PackWritesSaid : Prop := packWritesRow.holds Try.pinned (OpenSpec.ofChange packWritesSpec)

/-- ITS FALSE NEIGHBOUR: 'it returns false'. Refute it at one input. -/
def packWritesWrong : ChangeSpec := { name := "packWrites", fn := fun _ => fun
  | [d] => { results := [.lit (.bool false)], args := [d] }
  | _ => none }
def PackWritesWrongFalsely : Prop := packWritesRow.holds Try.pinned (OpenSpec.ofChange packWritesWrong)

/-- 'sponsionlaw04.PackReads': WHATEVER THE INPUT: true; the input reads as it did. -/
def packReadsSpec : ChangeSpec := { name := "packReads", fn := fun _ => fun
  | [d1, d2] => { results := [.lit (.bool true)], args := [d1, d2] }
  | _ => none }
def packReadsRow : OpenClaim := { program := "ytpngjgcbdaogmaa", sum := "b803d2b3aabfa0e18ec90bcc0440fccd41aa426a7ccc191bf04a7b2a3d64ea62", func := "sponsion/sponsionlaw04.PackReads", spec := "packReads", apart := false }
def PackReadsSaid : Prop := packReadsRow.holds Try.pinned (OpenSpec.ofChange packReadsSpec)

/-- ITS FALSE NEIGHBOUR: 'it returns false'. Refute it at one input. -/
def packReadsWrong : ChangeSpec := { name := "packReads", fn := fun _ => fun
  | [d1, d2] => { results := [.lit (.bool false)], args := [d1, d2] }
  | _ => none }
def PackReadsWrongFalsely : Prop := packReadsRow.holds Try.pinned (OpenSpec.ofChange packReadsWrong)

/-- 'sponsionlaw04.PackBack': WHATEVER THE INPUT: true; the input reads as it did. -/
def packBackSpec : ChangeSpec := { name := "packBack", fn := fun _ => fun
  | [d] => { results := [.lit (.bool true)], args := [d] }
  | _ => none }
def packBackRow : OpenClaim := { program := "ytpngjgcbdaogmaa", sum := "b803d2b3aabfa0e18ec90bcc0440fccd41aa426a7ccc191bf04a7b2a3d64ea62", func := "sponsion/sponsionlaw04.PackBack", spec := "packBack", apart := false }
def PackBackSaid : Prop := packBackRow.holds Try.pinned (OpenSpec.ofChange packBackSpec)

/-- ITS FALSE NEIGHBOUR: 'it returns false'. Refute it at one input. -/
def packBackWrong : ChangeSpec := { name := "packBack", fn := fun _ => fun
  | [d] => { results := [.lit (.bool false)], args := [d] }
  | _ => none }
def PackBackWrongFalsely : Prop := packBackRow.holds Try.pinned (OpenSpec.ofChange packBackWrong)

/-- 'sponsionlaw07.IntentRows': WHATEVER THE INPUT: true; the input reads as it did. -/
def intentRowsSpec : ChangeSpec := { name := "intentRows", fn := fun _ => fun
  | [d] => { results := [.lit (.bool true)], args := [d] }
  | _ => none }
def intentRowsRow : OpenClaim := { program := "ytpngjgcbdaogmaa", sum := "b803d2b3aabfa0e18ec90bcc0440fccd41aa426a7ccc191bf04a7b2a3d64ea62", func := "sponsion/sponsionlaw07.IntentRows", spec := "intentRows", apart := false }
def IntentRowsSaid : Prop := intentRowsRow.holds Try.pinned (OpenSpec.ofChange intentRowsSpec)

/-- ITS FALSE NEIGHBOUR: 'it returns false'. Refute it at one input. -/
def intentRowsWrong : ChangeSpec := { name := "intentRows", fn := fun _ => fun
  | [d] => { results := [.lit (.bool false)], args := [d] }
  | _ => none }
def IntentRowsWrongFalsely : Prop := intentRowsRow.holds Try.pinned (OpenSpec.ofChange intentRowsWrong)

/-- 'sponsionlaw07.IntentReads': WHATEVER THE INPUT: true; the input reads as it did. -/
def intentReadsSpec : ChangeSpec := { name := "intentReads", fn := fun _ => fun
  | [d] => { results := [.lit (.bool true)], args := [d] }
  | _ => none }
def intentReadsRow : OpenClaim := { program := "ytpngjgcbdaogmaa", sum := "b803d2b3aabfa0e18ec90bcc0440fccd41aa426a7ccc191bf04a7b2a3d64ea62", func := "sponsion/sponsionlaw07.IntentReads", spec := "intentReads", apart := false }
def IntentReadsSaid : Prop := intentReadsRow.holds Try.pinned (OpenSpec.ofChange intentReadsSpec)

/-- ITS FALSE NEIGHBOUR: 'it returns false'. Refute it at one input. -/
def intentReadsWrong : ChangeSpec := { name := "intentReads", fn := fun _ => fun
  | [d] => { results := [.lit (.bool false)], args := [d] }
  | _ => none }
def IntentReadsWrongFalsely : Prop := intentReadsRow.holds Try.pinned (OpenSpec.ofChange intentReadsWrong)

/-- 'sponsionlaw09.EventRows': WHATEVER THE INPUT: true; the input reads as it did. -/
def eventRowsSpec : ChangeSpec := { name := "eventRows", fn := fun _ => fun
  | [d] => { results := [.lit (.bool true)], args := [d] }
  | _ => none }
def eventRowsRow : OpenClaim := { program := "ytpngjgcbdaogmaa", sum := "b803d2b3aabfa0e18ec90bcc0440fccd41aa426a7ccc191bf04a7b2a3d64ea62", func := "sponsion/sponsionlaw09.EventRows", spec := "eventRows", apart := false }
def EventRowsSaid : Prop := eventRowsRow.holds Try.pinned (OpenSpec.ofChange eventRowsSpec)

/-- ITS FALSE NEIGHBOUR: 'it returns false'. Refute it at one input. -/
def eventRowsWrong : ChangeSpec := { name := "eventRows", fn := fun _ => fun
  | [d] => { results := [.lit (.bool false)], args := [d] }
  | _ => none }
def EventRowsWrongFalsely : Prop := eventRowsRow.holds Try.pinned (OpenSpec.ofChange eventRowsWrong)

/-- 'sponsionlaw09.EventReads': WHATEVER THE INPUT: true; the input reads as it did. -/
def eventReadsSpec : ChangeSpec := { name := "eventReads", fn := fun _ => fun
  | [d] => { results := [.lit (.bool true)], args := [d] }
  | _ => none }
def eventReadsRow : OpenClaim := { program := "ytpngjgcbdaogmaa", sum := "b803d2b3aabfa0e18ec90bcc0440fccd41aa426a7ccc191bf04a7b2a3d64ea62", func := "sponsion/sponsionlaw09.EventReads", spec := "eventReads", apart := false }
def EventReadsSaid : Prop := eventReadsRow.holds Try.pinned (OpenSpec.ofChange eventReadsSpec)

/-- ITS FALSE NEIGHBOUR: 'it returns false'. Refute it at one input. -/
def eventReadsWrong : ChangeSpec := { name := "eventReads", fn := fun _ => fun
  | [d] => { results := [.lit (.bool false)], args := [d] }
  | _ => none }
def EventReadsWrongFalsely : Prop := eventReadsRow.holds Try.pinned (OpenSpec.ofChange eventReadsWrong)

/-- 'sponsionlaw09.EventApart': WHATEVER THE INPUT: true; the input reads as it did. -/
def eventApartSpec : ChangeSpec := { name := "eventApart", fn := fun _ => fun
  | [d1, d2] => { results := [.lit (.bool true)], args := [d1, d2] }
  | _ => none }
def eventApartRow : OpenClaim := { program := "ytpngjgcbdaogmaa", sum := "b803d2b3aabfa0e18ec90bcc0440fccd41aa426a7ccc191bf04a7b2a3d64ea62", func := "sponsion/sponsionlaw09.EventApart", spec := "eventApart", apart := false }
def EventApartSaid : Prop := eventApartRow.holds Try.pinned (OpenSpec.ofChange eventApartSpec)

/-- ITS FALSE NEIGHBOUR: 'it returns false'. Refute it at one input. -/
def eventApartWrong : ChangeSpec := { name := "eventApart", fn := fun _ => fun
  | [d1, d2] => { results := [.lit (.bool false)], args := [d1, d2] }
  | _ => none }
def EventApartWrongFalsely : Prop := eventApartRow.holds Try.pinned (OpenSpec.ofChange eventApartWrong)

/-- 'sponsionlaw09.EventPicks': WHATEVER THE INPUT: true; the input reads as it did. -/
def eventPicksSpec : ChangeSpec := { name := "eventPicks", fn := fun _ => fun
  | [d1, d2, d3] => { results := [.lit (.bool true)], args := [d1, d2, d3] }
  | _ => none }
def eventPicksRow : OpenClaim := { program := "ytpngjgcbdaogmaa", sum := "b803d2b3aabfa0e18ec90bcc0440fccd41aa426a7ccc191bf04a7b2a3d64ea62", func := "sponsion/sponsionlaw09.EventPicks", spec := "eventPicks", unfollowed := true, recurses := true, apart := false }
def EventPicksSaid : Prop := eventPicksRow.holds Try.pinned (OpenSpec.ofChange eventPicksSpec)

/-- ITS FALSE NEIGHBOUR: 'it returns false'. Refute it at one input. -/
def eventPicksWrong : ChangeSpec := { name := "eventPicks", fn := fun _ => fun
  | [d1, d2, d3] => { results := [.lit (.bool false)], args := [d1, d2, d3] }
  | _ => none }
def EventPicksWrongFalsely : Prop := eventPicksRow.holds Try.pinned (OpenSpec.ofChange eventPicksWrong)

/- THE SECOND FORM. 'bulk': how many values and letters a reading holds, each counted each time it is reached (what is shared counts as often as it is met; a slice's spare places count too). A statement '..UptoSaid' is the law's where the arguments, and the package variables that the reading takes, are together of bulk at most 1048576: NARROWER than '..Said'. Prove '..Said' where nothing that the law and all that it calls make is longer than what came in: it says more and counts as full. Else prove '..UptoSaid'. A law counts once. -/
mutual
def uptoBulk {H : Type} : DataW H → Nat
  | .lit (.string bytes) => bytes.length + 1
  | .lit _ => 1
  | .nil => 1
  | .ptr d => uptoBulk d + 1
  | .slice elems spare => uptoBulkAll elems + uptoBulkAll spare + 1
  | .agg parts => uptoBulkAll parts + 1
  | .iface _ d => uptoBulk d + 1
  | .map entries => uptoBulkEntries entries + 1
  | .held _ => 1
def uptoBulkAll {H : Type} : List (DataW H) → Nat
  | [] => 0
  | d :: r => uptoBulk d + uptoBulkAll r
def uptoBulkEntries {H : Type} : List (Lit × DataW H) → Nat
  | [] => 0
  | x :: r => uptoBulkEntry x + uptoBulkEntries r
def uptoBulkEntry {H : Type} : Lit × DataW H → Nat
  | (.string bytes, d) => bytes.length + uptoBulk d + 1
  | (_, d) => uptoBulk d + 1
 end
def uptoSmall : (H : Type) → List (DataW H) → Bool := fun _ ds => decide (uptoBulkAll ds ≤ 1048576)
def OpenSpec.upto (s : _root_.Go.ChangeSpec) : _root_.Go.OpenSpec := { _root_.Go.OpenSpec.ofChange s with cond := some uptoSmall }

/-- 'sponsionlaw06.DomainApart', WHERE WHAT IT READS IS OF BULK AT MOST 1048576: true; the input reads as it did. -/
def domainApartUptoRow : OpenClaim := { program := "ytpngjgcbdaogmaa", sum := "b803d2b3aabfa0e18ec90bcc0440fccd41aa426a7ccc191bf04a7b2a3d64ea62", func := "sponsion/sponsionlaw06.DomainApart", spec := "domainApart", apart := false, narrowed := true }
def DomainApartUptoSaid : Prop := domainApartUptoRow.holds Try.pinned (OpenSpec.upto domainApartSpec)

/-- 'sponsionlaw04.PackWrites', WHERE WHAT IT READS IS OF BULK AT MOST 1048576: true; the input reads as it did. -/
def packWritesUptoRow : OpenClaim := { program := "ytpngjgcbdaogmaa", sum := "b803d2b3aabfa0e18ec90bcc0440fccd41aa426a7ccc191bf04a7b2a3d64ea62", func := "sponsion/sponsionlaw04.PackWrites", spec := "packWrites", apart := false, narrowed := true }
def PackWritesUptoSaid : Prop := packWritesUptoRow.holds Try.pinned (OpenSpec.upto packWritesSpec)

/-- 'sponsionlaw04.PackReads', WHERE WHAT IT READS IS OF BULK AT MOST 1048576: true; the input reads as it did. -/
def packReadsUptoRow : OpenClaim := { program := "ytpngjgcbdaogmaa", sum := "b803d2b3aabfa0e18ec90bcc0440fccd41aa426a7ccc191bf04a7b2a3d64ea62", func := "sponsion/sponsionlaw04.PackReads", spec := "packReads", apart := false, narrowed := true }
def PackReadsUptoSaid : Prop := packReadsUptoRow.holds Try.pinned (OpenSpec.upto packReadsSpec)

/-- 'sponsionlaw04.PackBack', WHERE WHAT IT READS IS OF BULK AT MOST 1048576: true; the input reads as it did. -/
def packBackUptoRow : OpenClaim := { program := "ytpngjgcbdaogmaa", sum := "b803d2b3aabfa0e18ec90bcc0440fccd41aa426a7ccc191bf04a7b2a3d64ea62", func := "sponsion/sponsionlaw04.PackBack", spec := "packBack", apart := false, narrowed := true }
def PackBackUptoSaid : Prop := packBackUptoRow.holds Try.pinned (OpenSpec.upto packBackSpec)

/-- 'sponsionlaw07.IntentRows', WHERE WHAT IT READS IS OF BULK AT MOST 1048576: true; the input reads as it did. -/
def intentRowsUptoRow : OpenClaim := { program := "ytpngjgcbdaogmaa", sum := "b803d2b3aabfa0e18ec90bcc0440fccd41aa426a7ccc191bf04a7b2a3d64ea62", func := "sponsion/sponsionlaw07.IntentRows", spec := "intentRows", apart := false, narrowed := true }
def IntentRowsUptoSaid : Prop := intentRowsUptoRow.holds Try.pinned (OpenSpec.upto intentRowsSpec)

/-- 'sponsionlaw07.IntentReads', WHERE WHAT IT READS IS OF BULK AT MOST 1048576: true; the input reads as it did. -/
def intentReadsUptoRow : OpenClaim := { program := "ytpngjgcbdaogmaa", sum := "b803d2b3aabfa0e18ec90bcc0440fccd41aa426a7ccc191bf04a7b2a3d64ea62", func := "sponsion/sponsionlaw07.IntentReads", spec := "intentReads", apart := false, narrowed := true }
def IntentReadsUptoSaid : Prop := intentReadsUptoRow.holds Try.pinned (OpenSpec.upto intentReadsSpec)

/-- 'sponsionlaw09.EventRows', WHERE WHAT IT READS IS OF BULK AT MOST 1048576: true; the input reads as it did. -/
def eventRowsUptoRow : OpenClaim := { program := "ytpngjgcbdaogmaa", sum := "b803d2b3aabfa0e18ec90bcc0440fccd41aa426a7ccc191bf04a7b2a3d64ea62", func := "sponsion/sponsionlaw09.EventRows", spec := "eventRows", apart := false, narrowed := true }
def EventRowsUptoSaid : Prop := eventRowsUptoRow.holds Try.pinned (OpenSpec.upto eventRowsSpec)

/-- 'sponsionlaw09.EventReads', WHERE WHAT IT READS IS OF BULK AT MOST 1048576: true; the input reads as it did. -/
def eventReadsUptoRow : OpenClaim := { program := "ytpngjgcbdaogmaa", sum := "b803d2b3aabfa0e18ec90bcc0440fccd41aa426a7ccc191bf04a7b2a3d64ea62", func := "sponsion/sponsionlaw09.EventReads", spec := "eventReads", apart := false, narrowed := true }
def EventReadsUptoSaid : Prop := eventReadsUptoRow.holds Try.pinned (OpenSpec.upto eventReadsSpec)

/-- 'sponsionlaw09.EventApart', WHERE WHAT IT READS IS OF BULK AT MOST 1048576: true; the input reads as it did. -/
def eventApartUptoRow : OpenClaim := { program := "ytpngjgcbdaogmaa", sum := "b803d2b3aabfa0e18ec90bcc0440fccd41aa426a7ccc191bf04a7b2a3d64ea62", func := "sponsion/sponsionlaw09.EventApart", spec := "eventApart", apart := false, narrowed := true }
def EventApartUptoSaid : Prop := eventApartUptoRow.holds Try.pinned (OpenSpec.upto eventApartSpec)

/-- 'sponsionlaw09.EventPicks', WHERE WHAT IT READS IS OF BULK AT MOST 1048576: true; the input reads as it did. -/
def eventPicksUptoRow : OpenClaim := { program := "ytpngjgcbdaogmaa", sum := "b803d2b3aabfa0e18ec90bcc0440fccd41aa426a7ccc191bf04a7b2a3d64ea62", func := "sponsion/sponsionlaw09.EventPicks", spec := "eventPicks", unfollowed := true, recurses := true, apart := false, narrowed := true }
def EventPicksUptoSaid : Prop := eventPicksUptoRow.holds Try.pinned (OpenSpec.upto eventPicksSpec)

end Rows
end Go.Proofs.Ytpngjgcbdaogmaa
