/-
  No cell of these rows narrows 'for every input' (looked for: loops, veiled, ifaces, maps, wideKeys, modest, calm, conditions, laid).
  DERIVED. THE GIVEN ROWS OF THIS SEAT. 16 by the template 'for every input the law returns true; each argument reads behind the call as it read before'; 0 by the template 'total and deterministic' (their statements: YthmecidpjlaonaaTotals.lean).
  GIVEN WITH THE SEED: the statements are not yours to turn. If you find one false, say at which input.
  Laid BY PROGRAM, IN A SANDBOX (cutbox-rows.mjs): the forced cells as the released guide's own fill.sh prints them over the translation f00625abb1b7c06f… (all of the seat's roots in one cut). By AI agents, Wed Nov 11 2026. No macro, syntax, notation, axiom, sorry.
-/
import Derived.Test.YthmecidpjlaonaaChecked
import GoSem.Claim
import GoSem.ClaimJoined
import GoSem.ClaimMapViews
import Derived.JoinedTies
import Derived.KernelRfl
namespace Go.Proofs.Ythmecidpjlaonaa
/- THE CELL 'sum', in the pinned program and in every row, IS THE sha256 OF THE DUMP (.gsa) THAT YthmecidpjlaonaaProg.lean LOADS. Nothing in Lean hashes anything: it is a label: what it is worth is what the hold of that sum in a sandbox is worth. -/
noncomputable def Try.pinned : Pinned := { name := "ythmecidpjlaonaa", sum := "f00625abb1b7c06f1c1d5c61e265d01c1c76a21095c1fc3e30c10ade9580a7c8", checked := Try.checked }
namespace Rows
def none {H : Type} : Left H := { results := [], args := [] }

/-- 'forkledgerlaw10.CheckerBuilds': WHATEVER THE INPUT: true; the input reads as it did. -/
def checkerBuildsSpec : ChangeSpec := { name := "checkerBuilds", fn := fun _ => fun
  | [d] => { results := [.lit (.bool true)], args := [d] }
  | _ => none }
def checkerBuildsRow : OpenClaim := { program := "ythmecidpjlaonaa", sum := "f00625abb1b7c06f1c1d5c61e265d01c1c76a21095c1fc3e30c10ade9580a7c8", func := "forkledger/forkledgerlaw10.CheckerBuilds", spec := "checkerBuilds", recurses := true, plainKeys := false, apart := false }
def CheckerBuildsSaid : Prop := checkerBuildsRow.holds Try.pinned (OpenSpec.ofChange checkerBuildsSpec)

/-- ITS FALSE NEIGHBOUR: 'it returns false'. Refute it at one input. -/
def checkerBuildsWrong : ChangeSpec := { name := "checkerBuilds", fn := fun _ => fun
  | [d] => { results := [.lit (.bool false)], args := [d] }
  | _ => none }
def CheckerBuildsWrongFalsely : Prop := checkerBuildsRow.holds Try.pinned (OpenSpec.ofChange checkerBuildsWrong)

/-- 'forkledgerlaw10.CheckerChecks': WHATEVER THE INPUT: true; the input reads as it did. -/
def checkerChecksSpec : ChangeSpec := { name := "checkerChecks", fn := fun _ => fun
  | [d1, d2, d3, d4, d5, d6, d7] => { results := [.lit (.bool true)], args := [d1, d2, d3, d4, d5, d6, d7] }
  | _ => none }
def checkerChecksRow : OpenClaim := { program := "ythmecidpjlaonaa", sum := "f00625abb1b7c06f1c1d5c61e265d01c1c76a21095c1fc3e30c10ade9580a7c8", func := "forkledger/forkledgerlaw10.CheckerChecks", spec := "checkerChecks", recurses := true, plainKeys := false, apart := false }
def CheckerChecksSaid : Prop := checkerChecksRow.holds Try.pinned (OpenSpec.ofChange checkerChecksSpec)

/-- ITS FALSE NEIGHBOUR: 'it returns false'. Refute it at one input. -/
def checkerChecksWrong : ChangeSpec := { name := "checkerChecks", fn := fun _ => fun
  | [d1, d2, d3, d4, d5, d6, d7] => { results := [.lit (.bool false)], args := [d1, d2, d3, d4, d5, d6, d7] }
  | _ => none }
def CheckerChecksWrongFalsely : Prop := checkerChecksRow.holds Try.pinned (OpenSpec.ofChange checkerChecksWrong)

/-- 'forkledgerlaw10.CheckerExhibits': WHATEVER THE INPUT: true; the input reads as it did. -/
def checkerExhibitsSpec : ChangeSpec := { name := "checkerExhibits", fn := fun _ => fun
  | [d1, d2] => { results := [.lit (.bool true)], args := [d1, d2] }
  | _ => none }
def checkerExhibitsRow : OpenClaim := { program := "ythmecidpjlaonaa", sum := "f00625abb1b7c06f1c1d5c61e265d01c1c76a21095c1fc3e30c10ade9580a7c8", func := "forkledger/forkledgerlaw10.CheckerExhibits", spec := "checkerExhibits", recurses := true, plainKeys := false, apart := false }
def CheckerExhibitsSaid : Prop := checkerExhibitsRow.holds Try.pinned (OpenSpec.ofChange checkerExhibitsSpec)

/-- ITS FALSE NEIGHBOUR: 'it returns false'. Refute it at one input. -/
def checkerExhibitsWrong : ChangeSpec := { name := "checkerExhibits", fn := fun _ => fun
  | [d1, d2] => { results := [.lit (.bool false)], args := [d1, d2] }
  | _ => none }
def CheckerExhibitsWrongFalsely : Prop := checkerExhibitsRow.holds Try.pinned (OpenSpec.ofChange checkerExhibitsWrong)

/-- 'forkledgerlaw10.CheckerHonest': WHATEVER THE INPUT: true; the input reads as it did. -/
def checkerHonestSpec : ChangeSpec := { name := "checkerHonest", fn := fun _ => fun
  | [d1, d2, d3, d4] => { results := [.lit (.bool true)], args := [d1, d2, d3, d4] }
  | _ => none }
def checkerHonestRow : OpenClaim := { program := "ythmecidpjlaonaa", sum := "f00625abb1b7c06f1c1d5c61e265d01c1c76a21095c1fc3e30c10ade9580a7c8", func := "forkledger/forkledgerlaw10.CheckerHonest", spec := "checkerHonest", recurses := true, plainKeys := false, apart := false }
def CheckerHonestSaid : Prop := checkerHonestRow.holds Try.pinned (OpenSpec.ofChange checkerHonestSpec)

/-- ITS FALSE NEIGHBOUR: 'it returns false'. Refute it at one input. -/
def checkerHonestWrong : ChangeSpec := { name := "checkerHonest", fn := fun _ => fun
  | [d1, d2, d3, d4] => { results := [.lit (.bool false)], args := [d1, d2, d3, d4] }
  | _ => none }
def CheckerHonestWrongFalsely : Prop := checkerHonestRow.holds Try.pinned (OpenSpec.ofChange checkerHonestWrong)

/-- 'forkledgerlaw8.SignedSigns': WHATEVER THE INPUT: true; the input reads as it did. -/
def signedSignsSpec : ChangeSpec := { name := "signedSigns", fn := fun _ => fun
  | [d1, d2, d3] => { results := [.lit (.bool true)], args := [d1, d2, d3] }
  | _ => none }
def signedSignsRow : OpenClaim := { program := "ythmecidpjlaonaa", sum := "f00625abb1b7c06f1c1d5c61e265d01c1c76a21095c1fc3e30c10ade9580a7c8", func := "forkledger/forkledgerlaw8.SignedSigns", spec := "signedSigns", inPlace := ["internal/bytealg.Compare", "internal/reflectlite.ValueOf", "internal/reflectlite.Swapper", "(internal/reflectlite.Value).Len"], unfollowed := true, recurses := true, plainKeys := false, apart := false }
def SignedSignsSaid : Prop := signedSignsRow.holds Try.pinned (OpenSpec.ofChange signedSignsSpec)

/-- ITS FALSE NEIGHBOUR: 'it returns false'. Refute it at one input. -/
def signedSignsWrong : ChangeSpec := { name := "signedSigns", fn := fun _ => fun
  | [d1, d2, d3] => { results := [.lit (.bool false)], args := [d1, d2, d3] }
  | _ => none }
def SignedSignsWrongFalsely : Prop := signedSignsRow.holds Try.pinned (OpenSpec.ofChange signedSignsWrong)

/-- 'forkledgerlaw8.SignedCanonical': WHATEVER THE INPUT: true; the input reads as it did. -/
def signedCanonicalSpec : ChangeSpec := { name := "signedCanonical", fn := fun _ => fun
  | [d1, d2] => { results := [.lit (.bool true)], args := [d1, d2] }
  | _ => none }
def signedCanonicalRow : OpenClaim := { program := "ythmecidpjlaonaa", sum := "f00625abb1b7c06f1c1d5c61e265d01c1c76a21095c1fc3e30c10ade9580a7c8", func := "forkledger/forkledgerlaw8.SignedCanonical", spec := "signedCanonical", inPlace := ["internal/bytealg.Compare", "internal/reflectlite.ValueOf", "internal/reflectlite.Swapper", "(internal/reflectlite.Value).Len"], unfollowed := true, recurses := true, plainKeys := false, apart := false }
def SignedCanonicalSaid : Prop := signedCanonicalRow.holds Try.pinned (OpenSpec.ofChange signedCanonicalSpec)

/-- ITS FALSE NEIGHBOUR: 'it returns false'. Refute it at one input. -/
def signedCanonicalWrong : ChangeSpec := { name := "signedCanonical", fn := fun _ => fun
  | [d1, d2] => { results := [.lit (.bool false)], args := [d1, d2] }
  | _ => none }
def SignedCanonicalWrongFalsely : Prop := signedCanonicalRow.holds Try.pinned (OpenSpec.ofChange signedCanonicalWrong)

/-- 'forkledgerlaw8.SignedKeys': WHATEVER THE INPUT: true; the input reads as it did. -/
def signedKeysSpec : ChangeSpec := { name := "signedKeys", fn := fun _ => fun
  | [d1, d2, d3] => { results := [.lit (.bool true)], args := [d1, d2, d3] }
  | _ => none }
def signedKeysRow : OpenClaim := { program := "ythmecidpjlaonaa", sum := "f00625abb1b7c06f1c1d5c61e265d01c1c76a21095c1fc3e30c10ade9580a7c8", func := "forkledger/forkledgerlaw8.SignedKeys", spec := "signedKeys", inPlace := ["internal/bytealg.Compare", "internal/reflectlite.ValueOf", "internal/reflectlite.Swapper", "(internal/reflectlite.Value).Len"], unfollowed := true, recurses := true, plainKeys := false, apart := false }
def SignedKeysSaid : Prop := signedKeysRow.holds Try.pinned (OpenSpec.ofChange signedKeysSpec)

/-- ITS FALSE NEIGHBOUR: 'it returns false'. Refute it at one input. -/
def signedKeysWrong : ChangeSpec := { name := "signedKeys", fn := fun _ => fun
  | [d1, d2, d3] => { results := [.lit (.bool false)], args := [d1, d2, d3] }
  | _ => none }
def SignedKeysWrongFalsely : Prop := signedKeysRow.holds Try.pinned (OpenSpec.ofChange signedKeysWrong)

/-- 'forkledgerlaw8.SignedLists': WHATEVER THE INPUT: true; the input reads as it did. -/
def signedListsSpec : ChangeSpec := { name := "signedLists", fn := fun _ => fun
  | [d] => { results := [.lit (.bool true)], args := [d] }
  | _ => none }
def signedListsRow : OpenClaim := { program := "ythmecidpjlaonaa", sum := "f00625abb1b7c06f1c1d5c61e265d01c1c76a21095c1fc3e30c10ade9580a7c8", func := "forkledger/forkledgerlaw8.SignedLists", spec := "signedLists", inPlace := ["internal/bytealg.Compare", "internal/reflectlite.ValueOf", "internal/reflectlite.Swapper", "(internal/reflectlite.Value).Len"], unfollowed := true, recurses := true, plainKeys := false, apart := false }
def SignedListsSaid : Prop := signedListsRow.holds Try.pinned (OpenSpec.ofChange signedListsSpec)

/-- ITS FALSE NEIGHBOUR: 'it returns false'. Refute it at one input. -/
def signedListsWrong : ChangeSpec := { name := "signedLists", fn := fun _ => fun
  | [d] => { results := [.lit (.bool false)], args := [d] }
  | _ => none }
def SignedListsWrongFalsely : Prop := signedListsRow.holds Try.pinned (OpenSpec.ofChange signedListsWrong)

/-- 'forkledgerlaw8.SignedCodes': WHATEVER THE INPUT: true; the input reads as it did. -/
def signedCodesSpec : ChangeSpec := { name := "signedCodes", fn := fun _ => fun
  | [d1, d2] => { results := [.lit (.bool true)], args := [d1, d2] }
  | _ => none }
def signedCodesRow : OpenClaim := { program := "ythmecidpjlaonaa", sum := "f00625abb1b7c06f1c1d5c61e265d01c1c76a21095c1fc3e30c10ade9580a7c8", func := "forkledger/forkledgerlaw8.SignedCodes", spec := "signedCodes", inPlace := ["internal/bytealg.Compare", "internal/reflectlite.ValueOf", "internal/reflectlite.Swapper", "(internal/reflectlite.Value).Len"], unfollowed := true, recurses := true, plainKeys := false, apart := false }
def SignedCodesSaid : Prop := signedCodesRow.holds Try.pinned (OpenSpec.ofChange signedCodesSpec)

/-- ITS FALSE NEIGHBOUR: 'it returns false'. Refute it at one input. -/
def signedCodesWrong : ChangeSpec := { name := "signedCodes", fn := fun _ => fun
  | [d1, d2] => { results := [.lit (.bool false)], args := [d1, d2] }
  | _ => none }
def SignedCodesWrongFalsely : Prop := signedCodesRow.holds Try.pinned (OpenSpec.ofChange signedCodesWrong)

/-- 'forkledgerlaw9.EvidenceGrows': WHATEVER THE INPUT: true; the input reads as it did. -/
def evidenceGrowsSpec : ChangeSpec := { name := "evidenceGrows", fn := fun _ => fun
  | [d1, d2, d3] => { results := [.lit (.bool true)], args := [d1, d2, d3] }
  | _ => none }
def evidenceGrowsRow : OpenClaim := { program := "ythmecidpjlaonaa", sum := "f00625abb1b7c06f1c1d5c61e265d01c1c76a21095c1fc3e30c10ade9580a7c8", func := "forkledger/forkledgerlaw9.EvidenceGrows", spec := "evidenceGrows", inPlace := ["internal/bytealg.Compare", "internal/reflectlite.ValueOf", "internal/reflectlite.Swapper", "(internal/reflectlite.Value).Len"], unfollowed := true, recurses := true, plainKeys := false, apart := false }
def EvidenceGrowsSaid : Prop := evidenceGrowsRow.holds Try.pinned (OpenSpec.ofChange evidenceGrowsSpec)

/-- ITS FALSE NEIGHBOUR: 'it returns false'. Refute it at one input. -/
def evidenceGrowsWrong : ChangeSpec := { name := "evidenceGrows", fn := fun _ => fun
  | [d1, d2, d3] => { results := [.lit (.bool false)], args := [d1, d2, d3] }
  | _ => none }
def EvidenceGrowsWrongFalsely : Prop := evidenceGrowsRow.holds Try.pinned (OpenSpec.ofChange evidenceGrowsWrong)

/-- 'forkledgerlaw9.EvidenceComplete': WHATEVER THE INPUT: true; the input reads as it did. -/
def evidenceCompleteSpec : ChangeSpec := { name := "evidenceComplete", fn := fun _ => fun
  | [d1, d2] => { results := [.lit (.bool true)], args := [d1, d2] }
  | _ => none }
def evidenceCompleteRow : OpenClaim := { program := "ythmecidpjlaonaa", sum := "f00625abb1b7c06f1c1d5c61e265d01c1c76a21095c1fc3e30c10ade9580a7c8", func := "forkledger/forkledgerlaw9.EvidenceComplete", spec := "evidenceComplete", inPlace := ["internal/bytealg.Compare", "internal/reflectlite.ValueOf", "internal/reflectlite.Swapper", "(internal/reflectlite.Value).Len"], unfollowed := true, recurses := true, plainKeys := false, apart := false }
def EvidenceCompleteSaid : Prop := evidenceCompleteRow.holds Try.pinned (OpenSpec.ofChange evidenceCompleteSpec)

/-- ITS FALSE NEIGHBOUR: 'it returns false'. Refute it at one input. -/
def evidenceCompleteWrong : ChangeSpec := { name := "evidenceComplete", fn := fun _ => fun
  | [d1, d2] => { results := [.lit (.bool false)], args := [d1, d2] }
  | _ => none }
def EvidenceCompleteWrongFalsely : Prop := evidenceCompleteRow.holds Try.pinned (OpenSpec.ofChange evidenceCompleteWrong)

/-- 'forkledgerlaw9.EvidenceSound': WHATEVER THE INPUT: true; the input reads as it did. -/
def evidenceSoundSpec : ChangeSpec := { name := "evidenceSound", fn := fun _ => fun
  | [d1, d2] => { results := [.lit (.bool true)], args := [d1, d2] }
  | _ => none }
def evidenceSoundRow : OpenClaim := { program := "ythmecidpjlaonaa", sum := "f00625abb1b7c06f1c1d5c61e265d01c1c76a21095c1fc3e30c10ade9580a7c8", func := "forkledger/forkledgerlaw9.EvidenceSound", spec := "evidenceSound", inPlace := ["internal/bytealg.Compare", "internal/reflectlite.ValueOf", "internal/reflectlite.Swapper", "(internal/reflectlite.Value).Len"], unfollowed := true, recurses := true, plainKeys := false, apart := false }
def EvidenceSoundSaid : Prop := evidenceSoundRow.holds Try.pinned (OpenSpec.ofChange evidenceSoundSpec)

/-- ITS FALSE NEIGHBOUR: 'it returns false'. Refute it at one input. -/
def evidenceSoundWrong : ChangeSpec := { name := "evidenceSound", fn := fun _ => fun
  | [d1, d2] => { results := [.lit (.bool false)], args := [d1, d2] }
  | _ => none }
def EvidenceSoundWrongFalsely : Prop := evidenceSoundRow.holds Try.pinned (OpenSpec.ofChange evidenceSoundWrong)

/-- 'forkledgerlaw8.SignedAccepts': WHATEVER THE INPUT: true; the input reads as it did. -/
def signedAcceptsSpec : ChangeSpec := { name := "signedAccepts", fn := fun _ => fun
  | [d1, d2, d3] => { results := [.lit (.bool true)], args := [d1, d2, d3] }
  | _ => none }
def signedAcceptsRow : OpenClaim := { program := "ythmecidpjlaonaa", sum := "f00625abb1b7c06f1c1d5c61e265d01c1c76a21095c1fc3e30c10ade9580a7c8", func := "forkledger/forkledgerlaw8.SignedAccepts", spec := "signedAccepts", inPlace := ["internal/bytealg.Compare", "internal/reflectlite.ValueOf", "internal/reflectlite.Swapper", "(internal/reflectlite.Value).Len"], unfollowed := true, recurses := true, plainKeys := false, apart := false }
def SignedAcceptsSaid : Prop := signedAcceptsRow.holds Try.pinned (OpenSpec.ofChange signedAcceptsSpec)

/-- ITS FALSE NEIGHBOUR: 'it returns false'. Refute it at one input. -/
def signedAcceptsWrong : ChangeSpec := { name := "signedAccepts", fn := fun _ => fun
  | [d1, d2, d3] => { results := [.lit (.bool false)], args := [d1, d2, d3] }
  | _ => none }
def SignedAcceptsWrongFalsely : Prop := signedAcceptsRow.holds Try.pinned (OpenSpec.ofChange signedAcceptsWrong)

/-- 'forkledgerlaw9.EvidenceCodes': WHATEVER THE INPUT: true; the input reads as it did. -/
def evidenceCodesSpec : ChangeSpec := { name := "evidenceCodes", fn := fun _ => fun
  | [d1, d2] => { results := [.lit (.bool true)], args := [d1, d2] }
  | _ => none }
def evidenceCodesRow : OpenClaim := { program := "ythmecidpjlaonaa", sum := "f00625abb1b7c06f1c1d5c61e265d01c1c76a21095c1fc3e30c10ade9580a7c8", func := "forkledger/forkledgerlaw9.EvidenceCodes", spec := "evidenceCodes", inPlace := ["internal/bytealg.Compare", "internal/reflectlite.ValueOf", "internal/reflectlite.Swapper", "(internal/reflectlite.Value).Len"], unfollowed := true, recurses := true, plainKeys := false, apart := false }
def EvidenceCodesSaid : Prop := evidenceCodesRow.holds Try.pinned (OpenSpec.ofChange evidenceCodesSpec)

/-- ITS FALSE NEIGHBOUR: 'it returns false'. Refute it at one input. -/
def evidenceCodesWrong : ChangeSpec := { name := "evidenceCodes", fn := fun _ => fun
  | [d1, d2] => { results := [.lit (.bool false)], args := [d1, d2] }
  | _ => none }
def EvidenceCodesWrongFalsely : Prop := evidenceCodesRow.holds Try.pinned (OpenSpec.ofChange evidenceCodesWrong)

/-- 'forkledgerlaw10.CheckerCuts': WHATEVER THE INPUT: true; the input reads as it did. -/
def checkerCutsSpec : ChangeSpec := { name := "checkerCuts", fn := fun _ => fun
  | [d1, d2, d3] => { results := [.lit (.bool true)], args := [d1, d2, d3] }
  | _ => none }
def checkerCutsRow : OpenClaim := { program := "ythmecidpjlaonaa", sum := "f00625abb1b7c06f1c1d5c61e265d01c1c76a21095c1fc3e30c10ade9580a7c8", func := "forkledger/forkledgerlaw10.CheckerCuts", spec := "checkerCuts", inPlace := ["internal/bytealg.Compare", "internal/reflectlite.ValueOf", "internal/reflectlite.Swapper", "(internal/reflectlite.Value).Len"], unfollowed := true, recurses := true, plainKeys := false, apart := false }
def CheckerCutsSaid : Prop := checkerCutsRow.holds Try.pinned (OpenSpec.ofChange checkerCutsSpec)

/-- ITS FALSE NEIGHBOUR: 'it returns false'. Refute it at one input. -/
def checkerCutsWrong : ChangeSpec := { name := "checkerCuts", fn := fun _ => fun
  | [d1, d2, d3] => { results := [.lit (.bool false)], args := [d1, d2, d3] }
  | _ => none }
def CheckerCutsWrongFalsely : Prop := checkerCutsRow.holds Try.pinned (OpenSpec.ofChange checkerCutsWrong)

/-- 'forkledgerlaw10.CheckerAccepts': WHATEVER THE INPUT: true; the input reads as it did. -/
def checkerAcceptsSpec : ChangeSpec := { name := "checkerAccepts", fn := fun _ => fun
  | [d1, d2] => { results := [.lit (.bool true)], args := [d1, d2] }
  | _ => none }
def checkerAcceptsRow : OpenClaim := { program := "ythmecidpjlaonaa", sum := "f00625abb1b7c06f1c1d5c61e265d01c1c76a21095c1fc3e30c10ade9580a7c8", func := "forkledger/forkledgerlaw10.CheckerAccepts", spec := "checkerAccepts", inPlace := ["internal/bytealg.Compare", "internal/reflectlite.ValueOf", "internal/reflectlite.Swapper", "(internal/reflectlite.Value).Len"], unfollowed := true, recurses := true, plainKeys := false, apart := false }
def CheckerAcceptsSaid : Prop := checkerAcceptsRow.holds Try.pinned (OpenSpec.ofChange checkerAcceptsSpec)

/-- ITS FALSE NEIGHBOUR: 'it returns false'. Refute it at one input. -/
def checkerAcceptsWrong : ChangeSpec := { name := "checkerAccepts", fn := fun _ => fun
  | [d1, d2] => { results := [.lit (.bool false)], args := [d1, d2] }
  | _ => none }
def CheckerAcceptsWrongFalsely : Prop := checkerAcceptsRow.holds Try.pinned (OpenSpec.ofChange checkerAcceptsWrong)

/- THE SECOND FORM. 'bulk': how many values and letters a reading holds, each counted each time it is reached (what is shared counts as often as it is met; a slice's spare places count too). A statement '..UptoSaid' is the law's where the arguments, and the package variables that the reading takes, are together of bulk at most 1048576: NARROWER than '..Said'. Prove '..Said' where nothing that the law and all that it calls make is longer than what came in: it says more and counts as full. Else prove '..UptoSaid'. A law counts once. -/
mutual
def uptoBulk {H : Type} : DataW H → Nat
  | .lit (.string bytes) => bytes.length + 1
  | .lit _ => 1
  | .nil => 1
  | .ptr d => uptoBulk d + 1
  | .slice elems spare => uptoBulkAll elems + uptoBulkAll spare + 1
  | .agg parts => uptoBulkAll parts + 1
  | .iface _ d => uptoBulk d + 1
  | .map entries => uptoBulkEntries entries + 1
  | .held _ => 1
def uptoBulkAll {H : Type} : List (DataW H) → Nat
  | [] => 0
  | d :: r => uptoBulk d + uptoBulkAll r
def uptoBulkEntries {H : Type} : List (Lit × DataW H) → Nat
  | [] => 0
  | x :: r => uptoBulkEntry x + uptoBulkEntries r
def uptoBulkEntry {H : Type} : Lit × DataW H → Nat
  | (.string bytes, d) => bytes.length + uptoBulk d + 1
  | (_, d) => uptoBulk d + 1
 end
def uptoSmall : (H : Type) → List (DataW H) → Bool := fun _ ds => decide (uptoBulkAll ds ≤ 1048576)
def OpenSpec.upto (s : _root_.Go.ChangeSpec) : _root_.Go.OpenSpec := { _root_.Go.OpenSpec.ofChange s with cond := some uptoSmall }

/-- 'forkledgerlaw10.CheckerBuilds', WHERE WHAT IT READS IS OF BULK AT MOST 1048576: true; the input reads as it did. -/
def checkerBuildsUptoRow : OpenClaim := { program := "ythmecidpjlaonaa", sum := "f00625abb1b7c06f1c1d5c61e265d01c1c76a21095c1fc3e30c10ade9580a7c8", func := "forkledger/forkledgerlaw10.CheckerBuilds", spec := "checkerBuilds", recurses := true, plainKeys := false, apart := false, narrowed := true }
def CheckerBuildsUptoSaid : Prop := checkerBuildsUptoRow.holds Try.pinned (OpenSpec.upto checkerBuildsSpec)

/-- 'forkledgerlaw10.CheckerChecks', WHERE WHAT IT READS IS OF BULK AT MOST 1048576: true; the input reads as it did. -/
def checkerChecksUptoRow : OpenClaim := { program := "ythmecidpjlaonaa", sum := "f00625abb1b7c06f1c1d5c61e265d01c1c76a21095c1fc3e30c10ade9580a7c8", func := "forkledger/forkledgerlaw10.CheckerChecks", spec := "checkerChecks", recurses := true, plainKeys := false, apart := false, narrowed := true }
def CheckerChecksUptoSaid : Prop := checkerChecksUptoRow.holds Try.pinned (OpenSpec.upto checkerChecksSpec)

/-- 'forkledgerlaw10.CheckerExhibits', WHERE WHAT IT READS IS OF BULK AT MOST 1048576: true; the input reads as it did. -/
def checkerExhibitsUptoRow : OpenClaim := { program := "ythmecidpjlaonaa", sum := "f00625abb1b7c06f1c1d5c61e265d01c1c76a21095c1fc3e30c10ade9580a7c8", func := "forkledger/forkledgerlaw10.CheckerExhibits", spec := "checkerExhibits", recurses := true, plainKeys := false, apart := false, narrowed := true }
def CheckerExhibitsUptoSaid : Prop := checkerExhibitsUptoRow.holds Try.pinned (OpenSpec.upto checkerExhibitsSpec)

/-- 'forkledgerlaw10.CheckerHonest', WHERE WHAT IT READS IS OF BULK AT MOST 1048576: true; the input reads as it did. -/
def checkerHonestUptoRow : OpenClaim := { program := "ythmecidpjlaonaa", sum := "f00625abb1b7c06f1c1d5c61e265d01c1c76a21095c1fc3e30c10ade9580a7c8", func := "forkledger/forkledgerlaw10.CheckerHonest", spec := "checkerHonest", recurses := true, plainKeys := false, apart := false, narrowed := true }
def CheckerHonestUptoSaid : Prop := checkerHonestUptoRow.holds Try.pinned (OpenSpec.upto checkerHonestSpec)

/-- 'forkledgerlaw8.SignedSigns', WHERE WHAT IT READS IS OF BULK AT MOST 1048576: true; the input reads as it did. -/
def signedSignsUptoRow : OpenClaim := { program := "ythmecidpjlaonaa", sum := "f00625abb1b7c06f1c1d5c61e265d01c1c76a21095c1fc3e30c10ade9580a7c8", func := "forkledger/forkledgerlaw8.SignedSigns", spec := "signedSigns", inPlace := ["internal/bytealg.Compare", "internal/reflectlite.ValueOf", "internal/reflectlite.Swapper", "(internal/reflectlite.Value).Len"], unfollowed := true, recurses := true, plainKeys := false, apart := false, narrowed := true }
def SignedSignsUptoSaid : Prop := signedSignsUptoRow.holds Try.pinned (OpenSpec.upto signedSignsSpec)

/-- 'forkledgerlaw8.SignedCanonical', WHERE WHAT IT READS IS OF BULK AT MOST 1048576: true; the input reads as it did. -/
def signedCanonicalUptoRow : OpenClaim := { program := "ythmecidpjlaonaa", sum := "f00625abb1b7c06f1c1d5c61e265d01c1c76a21095c1fc3e30c10ade9580a7c8", func := "forkledger/forkledgerlaw8.SignedCanonical", spec := "signedCanonical", inPlace := ["internal/bytealg.Compare", "internal/reflectlite.ValueOf", "internal/reflectlite.Swapper", "(internal/reflectlite.Value).Len"], unfollowed := true, recurses := true, plainKeys := false, apart := false, narrowed := true }
def SignedCanonicalUptoSaid : Prop := signedCanonicalUptoRow.holds Try.pinned (OpenSpec.upto signedCanonicalSpec)

/-- 'forkledgerlaw8.SignedKeys', WHERE WHAT IT READS IS OF BULK AT MOST 1048576: true; the input reads as it did. -/
def signedKeysUptoRow : OpenClaim := { program := "ythmecidpjlaonaa", sum := "f00625abb1b7c06f1c1d5c61e265d01c1c76a21095c1fc3e30c10ade9580a7c8", func := "forkledger/forkledgerlaw8.SignedKeys", spec := "signedKeys", inPlace := ["internal/bytealg.Compare", "internal/reflectlite.ValueOf", "internal/reflectlite.Swapper", "(internal/reflectlite.Value).Len"], unfollowed := true, recurses := true, plainKeys := false, apart := false, narrowed := true }
def SignedKeysUptoSaid : Prop := signedKeysUptoRow.holds Try.pinned (OpenSpec.upto signedKeysSpec)

/-- 'forkledgerlaw8.SignedLists', WHERE WHAT IT READS IS OF BULK AT MOST 1048576: true; the input reads as it did. -/
def signedListsUptoRow : OpenClaim := { program := "ythmecidpjlaonaa", sum := "f00625abb1b7c06f1c1d5c61e265d01c1c76a21095c1fc3e30c10ade9580a7c8", func := "forkledger/forkledgerlaw8.SignedLists", spec := "signedLists", inPlace := ["internal/bytealg.Compare", "internal/reflectlite.ValueOf", "internal/reflectlite.Swapper", "(internal/reflectlite.Value).Len"], unfollowed := true, recurses := true, plainKeys := false, apart := false, narrowed := true }
def SignedListsUptoSaid : Prop := signedListsUptoRow.holds Try.pinned (OpenSpec.upto signedListsSpec)

/-- 'forkledgerlaw8.SignedCodes', WHERE WHAT IT READS IS OF BULK AT MOST 1048576: true; the input reads as it did. -/
def signedCodesUptoRow : OpenClaim := { program := "ythmecidpjlaonaa", sum := "f00625abb1b7c06f1c1d5c61e265d01c1c76a21095c1fc3e30c10ade9580a7c8", func := "forkledger/forkledgerlaw8.SignedCodes", spec := "signedCodes", inPlace := ["internal/bytealg.Compare", "internal/reflectlite.ValueOf", "internal/reflectlite.Swapper", "(internal/reflectlite.Value).Len"], unfollowed := true, recurses := true, plainKeys := false, apart := false, narrowed := true }
def SignedCodesUptoSaid : Prop := signedCodesUptoRow.holds Try.pinned (OpenSpec.upto signedCodesSpec)

/-- 'forkledgerlaw9.EvidenceGrows', WHERE WHAT IT READS IS OF BULK AT MOST 1048576: true; the input reads as it did. -/
def evidenceGrowsUptoRow : OpenClaim := { program := "ythmecidpjlaonaa", sum := "f00625abb1b7c06f1c1d5c61e265d01c1c76a21095c1fc3e30c10ade9580a7c8", func := "forkledger/forkledgerlaw9.EvidenceGrows", spec := "evidenceGrows", inPlace := ["internal/bytealg.Compare", "internal/reflectlite.ValueOf", "internal/reflectlite.Swapper", "(internal/reflectlite.Value).Len"], unfollowed := true, recurses := true, plainKeys := false, apart := false, narrowed := true }
def EvidenceGrowsUptoSaid : Prop := evidenceGrowsUptoRow.holds Try.pinned (OpenSpec.upto evidenceGrowsSpec)

/-- 'forkledgerlaw9.EvidenceComplete', WHERE WHAT IT READS IS OF BULK AT MOST 1048576: true; the input reads as it did. -/
def evidenceCompleteUptoRow : OpenClaim := { program := "ythmecidpjlaonaa", sum := "f00625abb1b7c06f1c1d5c61e265d01c1c76a21095c1fc3e30c10ade9580a7c8", func := "forkledger/forkledgerlaw9.EvidenceComplete", spec := "evidenceComplete", inPlace := ["internal/bytealg.Compare", "internal/reflectlite.ValueOf", "internal/reflectlite.Swapper", "(internal/reflectlite.Value).Len"], unfollowed := true, recurses := true, plainKeys := false, apart := false, narrowed := true }
def EvidenceCompleteUptoSaid : Prop := evidenceCompleteUptoRow.holds Try.pinned (OpenSpec.upto evidenceCompleteSpec)

/-- 'forkledgerlaw9.EvidenceSound', WHERE WHAT IT READS IS OF BULK AT MOST 1048576: true; the input reads as it did. -/
def evidenceSoundUptoRow : OpenClaim := { program := "ythmecidpjlaonaa", sum := "f00625abb1b7c06f1c1d5c61e265d01c1c76a21095c1fc3e30c10ade9580a7c8", func := "forkledger/forkledgerlaw9.EvidenceSound", spec := "evidenceSound", inPlace := ["internal/bytealg.Compare", "internal/reflectlite.ValueOf", "internal/reflectlite.Swapper", "(internal/reflectlite.Value).Len"], unfollowed := true, recurses := true, plainKeys := false, apart := false, narrowed := true }
def EvidenceSoundUptoSaid : Prop := evidenceSoundUptoRow.holds Try.pinned (OpenSpec.upto evidenceSoundSpec)

/-- 'forkledgerlaw8.SignedAccepts', WHERE WHAT IT READS IS OF BULK AT MOST 1048576: true; the input reads as it did. -/
def signedAcceptsUptoRow : OpenClaim := { program := "ythmecidpjlaonaa", sum := "f00625abb1b7c06f1c1d5c61e265d01c1c76a21095c1fc3e30c10ade9580a7c8", func := "forkledger/forkledgerlaw8.SignedAccepts", spec := "signedAccepts", inPlace := ["internal/bytealg.Compare", "internal/reflectlite.ValueOf", "internal/reflectlite.Swapper", "(internal/reflectlite.Value).Len"], unfollowed := true, recurses := true, plainKeys := false, apart := false, narrowed := true }
def SignedAcceptsUptoSaid : Prop := signedAcceptsUptoRow.holds Try.pinned (OpenSpec.upto signedAcceptsSpec)

/-- 'forkledgerlaw9.EvidenceCodes', WHERE WHAT IT READS IS OF BULK AT MOST 1048576: true; the input reads as it did. -/
def evidenceCodesUptoRow : OpenClaim := { program := "ythmecidpjlaonaa", sum := "f00625abb1b7c06f1c1d5c61e265d01c1c76a21095c1fc3e30c10ade9580a7c8", func := "forkledger/forkledgerlaw9.EvidenceCodes", spec := "evidenceCodes", inPlace := ["internal/bytealg.Compare", "internal/reflectlite.ValueOf", "internal/reflectlite.Swapper", "(internal/reflectlite.Value).Len"], unfollowed := true, recurses := true, plainKeys := false, apart := false, narrowed := true }
def EvidenceCodesUptoSaid : Prop := evidenceCodesUptoRow.holds Try.pinned (OpenSpec.upto evidenceCodesSpec)

/-- 'forkledgerlaw10.CheckerCuts', WHERE WHAT IT READS IS OF BULK AT MOST 1048576: true; the input reads as it did. -/
def checkerCutsUptoRow : OpenClaim := { program := "ythmecidpjlaonaa", sum := "f00625abb1b7c06f1c1d5c61e265d01c1c76a21095c1fc3e30c10ade9580a7c8", func := "forkledger/forkledgerlaw10.CheckerCuts", spec := "checkerCuts", inPlace := ["internal/bytealg.Compare", "internal/reflectlite.ValueOf", "internal/reflectlite.Swapper", "(internal/reflectlite.Value).Len"], unfollowed := true, recurses := true, plainKeys := false, apart := false, narrowed := true }
def CheckerCutsUptoSaid : Prop := checkerCutsUptoRow.holds Try.pinned (OpenSpec.upto checkerCutsSpec)

/-- 'forkledgerlaw10.CheckerAccepts', WHERE WHAT IT READS IS OF BULK AT MOST 1048576: true; the input reads as it did. -/
def checkerAcceptsUptoRow : OpenClaim := { program := "ythmecidpjlaonaa", sum := "f00625abb1b7c06f1c1d5c61e265d01c1c76a21095c1fc3e30c10ade9580a7c8", func := "forkledger/forkledgerlaw10.CheckerAccepts", spec := "checkerAccepts", inPlace := ["internal/bytealg.Compare", "internal/reflectlite.ValueOf", "internal/reflectlite.Swapper", "(internal/reflectlite.Value).Len"], unfollowed := true, recurses := true, plainKeys := false, apart := false, narrowed := true }
def CheckerAcceptsUptoSaid : Prop := checkerAcceptsUptoRow.holds Try.pinned (OpenSpec.upto checkerAcceptsSpec)

end Rows
end Go.Proofs.Ythmecidpjlaonaa
