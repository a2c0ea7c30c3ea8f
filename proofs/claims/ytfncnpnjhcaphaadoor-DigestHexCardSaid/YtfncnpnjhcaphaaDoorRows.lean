/-
  NARROWER THAN 'FOR EVERY INPUT', by the rows' own cells (each row's printed sentence says how): DigestSums: laid · DigestParts: laid · DigestLess: laid · DigestHex: laid · DomainTexts: laid · DomainTrees: laid · DomainEmpty: laid · IntentApart: laid · IntentPuts: laid.
  DERIVED. THE GIVEN ROWS OF THIS SEAT. 9 by the template 'for every input the law returns true; each argument reads behind the call as it read before'; 0 by the template 'total and deterministic' (their statements: YtfncnpnjhcaphaaDoorTotals.lean).
  GIVEN WITH THE SEED: the statements are not yours to turn. If you find one false, say at which input.
  Laid BY PROGRAM, IN A SANDBOX (cutbox-rows.mjs): the forced cells as the released guide's own fill.sh prints them over the translation 7c4677ea20e811f6… (all of the seat's roots in one cut). By AI agents, Wed Nov 11 2026. No macro, syntax, notation, axiom, sorry.
-/
import Derived.Test.YtfncnpnjhcaphaaDoorChecked
import GoSem.Claim
import GoSem.ClaimJoined
import GoSem.ClaimMapViews
import Derived.JoinedTies
import Derived.KernelRfl
namespace Go.Proofs.YtfncnpnjhcaphaaDoor
/- THE CELL 'sum', in the pinned program and in every row, IS THE sha256 OF THE DUMP (.gsa) THAT YtfncnpnjhcaphaaDoorProg.lean LOADS. Nothing in Lean hashes anything: it is a label: what it is worth is what the hold of that sum in a sandbox is worth. -/
noncomputable def Tryd.pinned : Pinned := { name := "ytfncnpnjhcaphaadoor", sum := "7c4677ea20e811f6661f043a93e7f74ba94f99302137c1acf54cbc8561b8f32d", checked := Tryd.checked }
namespace Rows
def none {H : Type} : Left H := { results := [], args := [] }

/- WHAT THE LISTED PACKAGE-LEVEL VARIABLES READ AS WHEN THE CALL BEGINS. Each datum BY PROGRAM (the guide's laid-datum.mjs) off the statement by which the dump's own 'gosem.cut.vars' lays the variable. In a bare row this is a premise. The card (YtfncnpnjhcaphaaDoorCards.lean) ties it to the program's text. -/
def laid_sponsion_sponsionref05_rounds {H : Type} : DataW H := .agg [.lit (.int .u32 1116352408), .lit (.int .u32 1899447441), .lit (.int .u32 3049323471), .lit (.int .u32 3921009573), .lit (.int .u32 961987163), .lit (.int .u32 1508970993), .lit (.int .u32 2453635748), .lit (.int .u32 2870763221), .lit (.int .u32 3624381080), .lit (.int .u32 310598401), .lit (.int .u32 607225278), .lit (.int .u32 1426881987), .lit (.int .u32 1925078388), .lit (.int .u32 2162078206), .lit (.int .u32 2614888103), .lit (.int .u32 3248222580), .lit (.int .u32 3835390401), .lit (.int .u32 4022224774), .lit (.int .u32 264347078), .lit (.int .u32 604807628), .lit (.int .u32 770255983), .lit (.int .u32 1249150122), .lit (.int .u32 1555081692), .lit (.int .u32 1996064986), .lit (.int .u32 2554220882), .lit (.int .u32 2821834349), .lit (.int .u32 2952996808), .lit (.int .u32 3210313671), .lit (.int .u32 3336571891), .lit (.int .u32 3584528711), .lit (.int .u32 113926993), .lit (.int .u32 338241895), .lit (.int .u32 666307205), .lit (.int .u32 773529912), .lit (.int .u32 1294757372), .lit (.int .u32 1396182291), .lit (.int .u32 1695183700), .lit (.int .u32 1986661051), .lit (.int .u32 2177026350), .lit (.int .u32 2456956037), .lit (.int .u32 2730485921), .lit (.int .u32 2820302411), .lit (.int .u32 3259730800), .lit (.int .u32 3345764771), .lit (.int .u32 3516065817), .lit (.int .u32 3600352804), .lit (.int .u32 4094571909), .lit (.int .u32 275423344), .lit (.int .u32 430227734), .lit (.int .u32 506948616), .lit (.int .u32 659060556), .lit (.int .u32 883997877), .lit (.int .u32 958139571), .lit (.int .u32 1322822218), .lit (.int .u32 1537002063), .lit (.int .u32 1747873779), .lit (.int .u32 1955562222), .lit (.int .u32 2024104815), .lit (.int .u32 2227730452), .lit (.int .u32 2361852424), .lit (.int .u32 2428436474), .lit (.int .u32 2756734187), .lit (.int .u32 3204031479), .lit (.int .u32 3329325298)]
def laid_sponsion_digest_begin {H : Type} : DataW H := .agg [.lit (.int .u32 1779033703), .lit (.int .u32 3144134277), .lit (.int .u32 1013904242), .lit (.int .u32 2773480762), .lit (.int .u32 1359893119), .lit (.int .u32 2600822924), .lit (.int .u32 528734635), .lit (.int .u32 1541459225)]
def laid_sponsion_digest_rounds {H : Type} : DataW H := .agg [.lit (.int .u32 1116352408), .lit (.int .u32 1899447441), .lit (.int .u32 3049323471), .lit (.int .u32 3921009573), .lit (.int .u32 961987163), .lit (.int .u32 1508970993), .lit (.int .u32 2453635748), .lit (.int .u32 2870763221), .lit (.int .u32 3624381080), .lit (.int .u32 310598401), .lit (.int .u32 607225278), .lit (.int .u32 1426881987), .lit (.int .u32 1925078388), .lit (.int .u32 2162078206), .lit (.int .u32 2614888103), .lit (.int .u32 3248222580), .lit (.int .u32 3835390401), .lit (.int .u32 4022224774), .lit (.int .u32 264347078), .lit (.int .u32 604807628), .lit (.int .u32 770255983), .lit (.int .u32 1249150122), .lit (.int .u32 1555081692), .lit (.int .u32 1996064986), .lit (.int .u32 2554220882), .lit (.int .u32 2821834349), .lit (.int .u32 2952996808), .lit (.int .u32 3210313671), .lit (.int .u32 3336571891), .lit (.int .u32 3584528711), .lit (.int .u32 113926993), .lit (.int .u32 338241895), .lit (.int .u32 666307205), .lit (.int .u32 773529912), .lit (.int .u32 1294757372), .lit (.int .u32 1396182291), .lit (.int .u32 1695183700), .lit (.int .u32 1986661051), .lit (.int .u32 2177026350), .lit (.int .u32 2456956037), .lit (.int .u32 2730485921), .lit (.int .u32 2820302411), .lit (.int .u32 3259730800), .lit (.int .u32 3345764771), .lit (.int .u32 3516065817), .lit (.int .u32 3600352804), .lit (.int .u32 4094571909), .lit (.int .u32 275423344), .lit (.int .u32 430227734), .lit (.int .u32 506948616), .lit (.int .u32 659060556), .lit (.int .u32 883997877), .lit (.int .u32 958139571), .lit (.int .u32 1322822218), .lit (.int .u32 1537002063), .lit (.int .u32 1747873779), .lit (.int .u32 1955562222), .lit (.int .u32 2024104815), .lit (.int .u32 2227730452), .lit (.int .u32 2361852424), .lit (.int .u32 2428436474), .lit (.int .u32 2756734187), .lit (.int .u32 3204031479), .lit (.int .u32 3329325298)]

/-- 'sponsionlaw05.DigestSums': WHATEVER THE INPUT: true; the input reads as it did. -/
def digestSumsSpec : ChangeSpec := { name := "digestSums", fn := fun _ => fun
  | [d] => { results := [.lit (.bool true)], args := [d] }
  | _ => none }
def digestSumsRow : OpenClaim := { program := "ytfncnpnjhcaphaadoor", sum := "7c4677ea20e811f6661f043a93e7f74ba94f99302137c1acf54cbc8561b8f32d", func := "sponsion/sponsionlaw05.DigestSums", spec := "digestSums", named := ["sponsion/digest.begin", "sponsion/digest.rounds", "sponsion/sponsionref05.rounds"], apart := false, laid := [("sponsion/sponsionref05.rounds", laid_sponsion_sponsionref05_rounds), ("sponsion/digest.begin", laid_sponsion_digest_begin), ("sponsion/digest.rounds", laid_sponsion_digest_rounds)] }
def DigestSumsSaid : Prop := digestSumsRow.holds Tryd.pinned (OpenSpec.ofChange digestSumsSpec)

/-- ITS FALSE NEIGHBOUR: 'it returns false'. Refute it at one input. -/
def digestSumsWrong : ChangeSpec := { name := "digestSums", fn := fun _ => fun
  | [d] => { results := [.lit (.bool false)], args := [d] }
  | _ => none }
def DigestSumsWrongFalsely : Prop := digestSumsRow.holds Tryd.pinned (OpenSpec.ofChange digestSumsWrong)

/-- 'sponsionlaw05.DigestParts': WHATEVER THE INPUT: true; the input reads as it did. -/
def digestPartsSpec : ChangeSpec := { name := "digestParts", fn := fun _ => fun
  | [d] => { results := [.lit (.bool true)], args := [d] }
  | _ => none }
def digestPartsRow : OpenClaim := { program := "ytfncnpnjhcaphaadoor", sum := "7c4677ea20e811f6661f043a93e7f74ba94f99302137c1acf54cbc8561b8f32d", func := "sponsion/sponsionlaw05.DigestParts", spec := "digestParts", named := ["sponsion/digest.begin", "sponsion/digest.rounds"], apart := false, laid := [("sponsion/digest.begin", laid_sponsion_digest_begin), ("sponsion/digest.rounds", laid_sponsion_digest_rounds)] }
def DigestPartsSaid : Prop := digestPartsRow.holds Tryd.pinned (OpenSpec.ofChange digestPartsSpec)

/-- ITS FALSE NEIGHBOUR: 'it returns false'. Refute it at one input. -/
def digestPartsWrong : ChangeSpec := { name := "digestParts", fn := fun _ => fun
  | [d] => { results := [.lit (.bool false)], args := [d] }
  | _ => none }
def DigestPartsWrongFalsely : Prop := digestPartsRow.holds Tryd.pinned (OpenSpec.ofChange digestPartsWrong)

/-- 'sponsionlaw05.DigestLess': WHATEVER THE INPUT: true; the input reads as it did. -/
def digestLessSpec : ChangeSpec := { name := "digestLess", fn := fun _ => fun
  | [d1, d2, d3] => { results := [.lit (.bool true)], args := [d1, d2, d3] }
  | _ => none }
def digestLessRow : OpenClaim := { program := "ytfncnpnjhcaphaadoor", sum := "7c4677ea20e811f6661f043a93e7f74ba94f99302137c1acf54cbc8561b8f32d", func := "sponsion/sponsionlaw05.DigestLess", spec := "digestLess", inPlace := ["internal/bytealg.Compare"], named := ["sponsion/digest.begin", "sponsion/digest.rounds"], apart := false, laid := [("sponsion/digest.begin", laid_sponsion_digest_begin), ("sponsion/digest.rounds", laid_sponsion_digest_rounds)] }
def DigestLessSaid : Prop := digestLessRow.holds Tryd.pinned (OpenSpec.ofChange digestLessSpec)

/-- ITS FALSE NEIGHBOUR: 'it returns false'. Refute it at one input. -/
def digestLessWrong : ChangeSpec := { name := "digestLess", fn := fun _ => fun
  | [d1, d2, d3] => { results := [.lit (.bool false)], args := [d1, d2, d3] }
  | _ => none }
def DigestLessWrongFalsely : Prop := digestLessRow.holds Tryd.pinned (OpenSpec.ofChange digestLessWrong)

/-- 'sponsionlaw05.DigestHex': WHATEVER THE INPUT: true; the input reads as it did. -/
def digestHexSpec : ChangeSpec := { name := "digestHex", fn := fun _ => fun
  | [d] => { results := [.lit (.bool true)], args := [d] }
  | _ => none }
def digestHexRow : OpenClaim := { program := "ytfncnpnjhcaphaadoor", sum := "7c4677ea20e811f6661f043a93e7f74ba94f99302137c1acf54cbc8561b8f32d", func := "sponsion/sponsionlaw05.DigestHex", spec := "digestHex", named := ["sponsion/digest.begin", "sponsion/digest.rounds"], apart := false, laid := [("sponsion/digest.begin", laid_sponsion_digest_begin), ("sponsion/digest.rounds", laid_sponsion_digest_rounds)] }
def DigestHexSaid : Prop := digestHexRow.holds Tryd.pinned (OpenSpec.ofChange digestHexSpec)

/-- ITS FALSE NEIGHBOUR: 'it returns false'. Refute it at one input. -/
def digestHexWrong : ChangeSpec := { name := "digestHex", fn := fun _ => fun
  | [d] => { results := [.lit (.bool false)], args := [d] }
  | _ => none }
def DigestHexWrongFalsely : Prop := digestHexRow.holds Tryd.pinned (OpenSpec.ofChange digestHexWrong)

/-- 'sponsionlaw06.DomainTexts': WHATEVER THE INPUT: true; the input reads as it did. -/
def domainTextsSpec : ChangeSpec := { name := "domainTexts", fn := fun _ => fun
  | [d1, d2] => { results := [.lit (.bool true)], args := [d1, d2] }
  | _ => none }
def domainTextsRow : OpenClaim := { program := "ytfncnpnjhcaphaadoor", sum := "7c4677ea20e811f6661f043a93e7f74ba94f99302137c1acf54cbc8561b8f32d", func := "sponsion/sponsionlaw06.DomainTexts", spec := "domainTexts", named := ["sponsion/digest.begin", "sponsion/digest.rounds", "sponsion/sponsionref05.rounds"], apart := false, laid := [("sponsion/sponsionref05.rounds", laid_sponsion_sponsionref05_rounds), ("sponsion/digest.begin", laid_sponsion_digest_begin), ("sponsion/digest.rounds", laid_sponsion_digest_rounds)] }
def DomainTextsSaid : Prop := domainTextsRow.holds Tryd.pinned (OpenSpec.ofChange domainTextsSpec)

/-- ITS FALSE NEIGHBOUR: 'it returns false'. Refute it at one input. -/
def domainTextsWrong : ChangeSpec := { name := "domainTexts", fn := fun _ => fun
  | [d1, d2] => { results := [.lit (.bool false)], args := [d1, d2] }
  | _ => none }
def DomainTextsWrongFalsely : Prop := domainTextsRow.holds Tryd.pinned (OpenSpec.ofChange domainTextsWrong)

/-- 'sponsionlaw06.DomainTrees': WHATEVER THE INPUT: true; the input reads as it did. -/
def domainTreesSpec : ChangeSpec := { name := "domainTrees", fn := fun _ => fun
  | [d1, d2, d3] => { results := [.lit (.bool true)], args := [d1, d2, d3] }
  | _ => none }
def domainTreesRow : OpenClaim := { program := "ytfncnpnjhcaphaadoor", sum := "7c4677ea20e811f6661f043a93e7f74ba94f99302137c1acf54cbc8561b8f32d", func := "sponsion/sponsionlaw06.DomainTrees", spec := "domainTrees", named := ["sponsion/digest.begin", "sponsion/digest.rounds", "sponsion/sponsionref05.rounds"], apart := false, laid := [("sponsion/sponsionref05.rounds", laid_sponsion_sponsionref05_rounds), ("sponsion/digest.begin", laid_sponsion_digest_begin), ("sponsion/digest.rounds", laid_sponsion_digest_rounds)] }
def DomainTreesSaid : Prop := domainTreesRow.holds Tryd.pinned (OpenSpec.ofChange domainTreesSpec)

/-- ITS FALSE NEIGHBOUR: 'it returns false'. Refute it at one input. -/
def domainTreesWrong : ChangeSpec := { name := "domainTrees", fn := fun _ => fun
  | [d1, d2, d3] => { results := [.lit (.bool false)], args := [d1, d2, d3] }
  | _ => none }
def DomainTreesWrongFalsely : Prop := domainTreesRow.holds Tryd.pinned (OpenSpec.ofChange domainTreesWrong)

/-- 'sponsionlaw06.DomainEmpty': WHATEVER THE INPUT: true; the input reads as it did. -/
def domainEmptySpec : ChangeSpec := { name := "domainEmpty", fn := fun _ => fun
  | [d] => { results := [.lit (.bool true)], args := [d] }
  | _ => none }
def domainEmptyRow : OpenClaim := { program := "ytfncnpnjhcaphaadoor", sum := "7c4677ea20e811f6661f043a93e7f74ba94f99302137c1acf54cbc8561b8f32d", func := "sponsion/sponsionlaw06.DomainEmpty", spec := "domainEmpty", named := ["sponsion/sponsionref05.rounds", "sponsion/digest.begin", "sponsion/digest.rounds"], apart := false, laid := [("sponsion/sponsionref05.rounds", laid_sponsion_sponsionref05_rounds), ("sponsion/digest.begin", laid_sponsion_digest_begin), ("sponsion/digest.rounds", laid_sponsion_digest_rounds)] }
def DomainEmptySaid : Prop := domainEmptyRow.holds Tryd.pinned (OpenSpec.ofChange domainEmptySpec)

/-- ITS FALSE NEIGHBOUR: 'it returns false'. Refute it at one input. -/
def domainEmptyWrong : ChangeSpec := { name := "domainEmpty", fn := fun _ => fun
  | [d] => { results := [.lit (.bool false)], args := [d] }
  | _ => none }
def DomainEmptyWrongFalsely : Prop := domainEmptyRow.holds Tryd.pinned (OpenSpec.ofChange domainEmptyWrong)

/-- 'sponsionlaw07.IntentApart': WHATEVER THE INPUT: true; the input reads as it did. -/
def intentApartSpec : ChangeSpec := { name := "intentApart", fn := fun _ => fun
  | [d1, d2] => { results := [.lit (.bool true)], args := [d1, d2] }
  | _ => none }
def intentApartRow : OpenClaim := { program := "ytfncnpnjhcaphaadoor", sum := "7c4677ea20e811f6661f043a93e7f74ba94f99302137c1acf54cbc8561b8f32d", func := "sponsion/sponsionlaw07.IntentApart", spec := "intentApart", named := ["sponsion/digest.begin", "sponsion/digest.rounds"], apart := false, laid := [("sponsion/digest.begin", laid_sponsion_digest_begin), ("sponsion/digest.rounds", laid_sponsion_digest_rounds)] }
def IntentApartSaid : Prop := intentApartRow.holds Tryd.pinned (OpenSpec.ofChange intentApartSpec)

/-- ITS FALSE NEIGHBOUR: 'it returns false'. Refute it at one input. -/
def intentApartWrong : ChangeSpec := { name := "intentApart", fn := fun _ => fun
  | [d1, d2] => { results := [.lit (.bool false)], args := [d1, d2] }
  | _ => none }
def IntentApartWrongFalsely : Prop := intentApartRow.holds Tryd.pinned (OpenSpec.ofChange intentApartWrong)

/-- 'sponsionlaw07.IntentPuts': WHATEVER THE INPUT: true; the input reads as it did. -/
def intentPutsSpec : ChangeSpec := { name := "intentPuts", fn := fun _ => fun
  | [d] => { results := [.lit (.bool true)], args := [d] }
  | _ => none }
def intentPutsRow : OpenClaim := { program := "ytfncnpnjhcaphaadoor", sum := "7c4677ea20e811f6661f043a93e7f74ba94f99302137c1acf54cbc8561b8f32d", func := "sponsion/sponsionlaw07.IntentPuts", spec := "intentPuts", named := ["sponsion/digest.begin", "sponsion/digest.rounds", "sponsion/sponsionref05.rounds"], apart := false, laid := [("sponsion/sponsionref05.rounds", laid_sponsion_sponsionref05_rounds), ("sponsion/digest.begin", laid_sponsion_digest_begin), ("sponsion/digest.rounds", laid_sponsion_digest_rounds)] }
def IntentPutsSaid : Prop := intentPutsRow.holds Tryd.pinned (OpenSpec.ofChange intentPutsSpec)

/-- ITS FALSE NEIGHBOUR: 'it returns false'. Refute it at one input. -/
def intentPutsWrong : ChangeSpec := { name := "intentPuts", fn := fun _ => fun
  | [d] => { results := [.lit (.bool false)], args := [d] }
  | _ => none }
def IntentPutsWrongFalsely : Prop := intentPutsRow.holds Tryd.pinned (OpenSpec.ofChange intentPutsWrong)

/- THE SECOND FORM. 'bulk': how many values and letters a reading holds, each counted each time it is reached (what is shared counts as often as it is met; a slice's spare places count too). A statement '..UptoSaid' is the law's where the arguments, and the package variables that the reading takes, are together of bulk at most 1048576: NARROWER than '..Said'. Prove '..Said' where nothing that the law and all that it calls make is longer than what came in: it says more and counts as full. Else prove '..UptoSaid'. A law counts once. -/
mutual
def uptoBulk {H : Type} : DataW H → Nat
  | .lit (.string bytes) => bytes.length + 1
  | .lit _ => 1
  | .nil => 1
  | .ptr d => uptoBulk d + 1
  | .slice elems spare => uptoBulkAll elems + uptoBulkAll spare + 1
  | .agg parts => uptoBulkAll parts + 1
  | .iface _ d => uptoBulk d + 1
  | .map entries => uptoBulkEntries entries + 1
  | .held _ => 1
def uptoBulkAll {H : Type} : List (DataW H) → Nat
  | [] => 0
  | d :: r => uptoBulk d + uptoBulkAll r
def uptoBulkEntries {H : Type} : List (Lit × DataW H) → Nat
  | [] => 0
  | x :: r => uptoBulkEntry x + uptoBulkEntries r
def uptoBulkEntry {H : Type} : Lit × DataW H → Nat
  | (.string bytes, d) => bytes.length + uptoBulk d + 1
  | (_, d) => uptoBulk d + 1
 end
def uptoSmall : (H : Type) → List (DataW H) → Bool := fun _ ds => decide (uptoBulkAll ds ≤ 1048576)
def OpenSpec.upto (s : _root_.Go.ChangeSpec) : _root_.Go.OpenSpec := { _root_.Go.OpenSpec.ofChange s with cond := some uptoSmall }

/-- 'sponsionlaw05.DigestSums', WHERE WHAT IT READS IS OF BULK AT MOST 1048576: true; the input reads as it did. -/
def digestSumsUptoRow : OpenClaim := { program := "ytfncnpnjhcaphaadoor", sum := "7c4677ea20e811f6661f043a93e7f74ba94f99302137c1acf54cbc8561b8f32d", func := "sponsion/sponsionlaw05.DigestSums", spec := "digestSums", named := ["sponsion/digest.begin", "sponsion/digest.rounds", "sponsion/sponsionref05.rounds"], apart := false, laid := [("sponsion/sponsionref05.rounds", laid_sponsion_sponsionref05_rounds), ("sponsion/digest.begin", laid_sponsion_digest_begin), ("sponsion/digest.rounds", laid_sponsion_digest_rounds)], narrowed := true }
def DigestSumsUptoSaid : Prop := digestSumsUptoRow.holds Tryd.pinned (OpenSpec.upto digestSumsSpec)

/-- 'sponsionlaw05.DigestParts', WHERE WHAT IT READS IS OF BULK AT MOST 1048576: true; the input reads as it did. -/
def digestPartsUptoRow : OpenClaim := { program := "ytfncnpnjhcaphaadoor", sum := "7c4677ea20e811f6661f043a93e7f74ba94f99302137c1acf54cbc8561b8f32d", func := "sponsion/sponsionlaw05.DigestParts", spec := "digestParts", named := ["sponsion/digest.begin", "sponsion/digest.rounds"], apart := false, laid := [("sponsion/digest.begin", laid_sponsion_digest_begin), ("sponsion/digest.rounds", laid_sponsion_digest_rounds)], narrowed := true }
def DigestPartsUptoSaid : Prop := digestPartsUptoRow.holds Tryd.pinned (OpenSpec.upto digestPartsSpec)

/-- 'sponsionlaw05.DigestLess', WHERE WHAT IT READS IS OF BULK AT MOST 1048576: true; the input reads as it did. -/
def digestLessUptoRow : OpenClaim := { program := "ytfncnpnjhcaphaadoor", sum := "7c4677ea20e811f6661f043a93e7f74ba94f99302137c1acf54cbc8561b8f32d", func := "sponsion/sponsionlaw05.DigestLess", spec := "digestLess", inPlace := ["internal/bytealg.Compare"], named := ["sponsion/digest.begin", "sponsion/digest.rounds"], apart := false, laid := [("sponsion/digest.begin", laid_sponsion_digest_begin), ("sponsion/digest.rounds", laid_sponsion_digest_rounds)], narrowed := true }
def DigestLessUptoSaid : Prop := digestLessUptoRow.holds Tryd.pinned (OpenSpec.upto digestLessSpec)

/-- 'sponsionlaw05.DigestHex', WHERE WHAT IT READS IS OF BULK AT MOST 1048576: true; the input reads as it did. -/
def digestHexUptoRow : OpenClaim := { program := "ytfncnpnjhcaphaadoor", sum := "7c4677ea20e811f6661f043a93e7f74ba94f99302137c1acf54cbc8561b8f32d", func := "sponsion/sponsionlaw05.DigestHex", spec := "digestHex", named := ["sponsion/digest.begin", "sponsion/digest.rounds"], apart := false, laid := [("sponsion/digest.begin", laid_sponsion_digest_begin), ("sponsion/digest.rounds", laid_sponsion_digest_rounds)], narrowed := true }
def DigestHexUptoSaid : Prop := digestHexUptoRow.holds Tryd.pinned (OpenSpec.upto digestHexSpec)

/-- 'sponsionlaw06.DomainTexts', WHERE WHAT IT READS IS OF BULK AT MOST 1048576: true; the input reads as it did. -/
def domainTextsUptoRow : OpenClaim := { program := "ytfncnpnjhcaphaadoor", sum := "7c4677ea20e811f6661f043a93e7f74ba94f99302137c1acf54cbc8561b8f32d", func := "sponsion/sponsionlaw06.DomainTexts", spec := "domainTexts", named := ["sponsion/digest.begin", "sponsion/digest.rounds", "sponsion/sponsionref05.rounds"], apart := false, laid := [("sponsion/sponsionref05.rounds", laid_sponsion_sponsionref05_rounds), ("sponsion/digest.begin", laid_sponsion_digest_begin), ("sponsion/digest.rounds", laid_sponsion_digest_rounds)], narrowed := true }
def DomainTextsUptoSaid : Prop := domainTextsUptoRow.holds Tryd.pinned (OpenSpec.upto domainTextsSpec)

/-- 'sponsionlaw06.DomainTrees', WHERE WHAT IT READS IS OF BULK AT MOST 1048576: true; the input reads as it did. -/
def domainTreesUptoRow : OpenClaim := { program := "ytfncnpnjhcaphaadoor", sum := "7c4677ea20e811f6661f043a93e7f74ba94f99302137c1acf54cbc8561b8f32d", func := "sponsion/sponsionlaw06.DomainTrees", spec := "domainTrees", named := ["sponsion/digest.begin", "sponsion/digest.rounds", "sponsion/sponsionref05.rounds"], apart := false, laid := [("sponsion/sponsionref05.rounds", laid_sponsion_sponsionref05_rounds), ("sponsion/digest.begin", laid_sponsion_digest_begin), ("sponsion/digest.rounds", laid_sponsion_digest_rounds)], narrowed := true }
def DomainTreesUptoSaid : Prop := domainTreesUptoRow.holds Tryd.pinned (OpenSpec.upto domainTreesSpec)

/-- 'sponsionlaw06.DomainEmpty', WHERE WHAT IT READS IS OF BULK AT MOST 1048576: true; the input reads as it did. -/
def domainEmptyUptoRow : OpenClaim := { program := "ytfncnpnjhcaphaadoor", sum := "7c4677ea20e811f6661f043a93e7f74ba94f99302137c1acf54cbc8561b8f32d", func := "sponsion/sponsionlaw06.DomainEmpty", spec := "domainEmpty", named := ["sponsion/sponsionref05.rounds", "sponsion/digest.begin", "sponsion/digest.rounds"], apart := false, laid := [("sponsion/sponsionref05.rounds", laid_sponsion_sponsionref05_rounds), ("sponsion/digest.begin", laid_sponsion_digest_begin), ("sponsion/digest.rounds", laid_sponsion_digest_rounds)], narrowed := true }
def DomainEmptyUptoSaid : Prop := domainEmptyUptoRow.holds Tryd.pinned (OpenSpec.upto domainEmptySpec)

/-- 'sponsionlaw07.IntentApart', WHERE WHAT IT READS IS OF BULK AT MOST 1048576: true; the input reads as it did. -/
def intentApartUptoRow : OpenClaim := { program := "ytfncnpnjhcaphaadoor", sum := "7c4677ea20e811f6661f043a93e7f74ba94f99302137c1acf54cbc8561b8f32d", func := "sponsion/sponsionlaw07.IntentApart", spec := "intentApart", named := ["sponsion/digest.begin", "sponsion/digest.rounds"], apart := false, laid := [("sponsion/digest.begin", laid_sponsion_digest_begin), ("sponsion/digest.rounds", laid_sponsion_digest_rounds)], narrowed := true }
def IntentApartUptoSaid : Prop := intentApartUptoRow.holds Tryd.pinned (OpenSpec.upto intentApartSpec)

/-- 'sponsionlaw07.IntentPuts', WHERE WHAT IT READS IS OF BULK AT MOST 1048576: true; the input reads as it did. -/
def intentPutsUptoRow : OpenClaim := { program := "ytfncnpnjhcaphaadoor", sum := "7c4677ea20e811f6661f043a93e7f74ba94f99302137c1acf54cbc8561b8f32d", func := "sponsion/sponsionlaw07.IntentPuts", spec := "intentPuts", named := ["sponsion/digest.begin", "sponsion/digest.rounds", "sponsion/sponsionref05.rounds"], apart := false, laid := [("sponsion/sponsionref05.rounds", laid_sponsion_sponsionref05_rounds), ("sponsion/digest.begin", laid_sponsion_digest_begin), ("sponsion/digest.rounds", laid_sponsion_digest_rounds)], narrowed := true }
def IntentPutsUptoSaid : Prop := intentPutsUptoRow.holds Tryd.pinned (OpenSpec.upto intentPutsSpec)

end Rows
end Go.Proofs.YtfncnpnjhcaphaaDoor
