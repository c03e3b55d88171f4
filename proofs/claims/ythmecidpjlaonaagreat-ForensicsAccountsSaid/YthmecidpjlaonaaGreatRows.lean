/-
  No cell of these rows narrows 'for every input' (looked for: loops, veiled, ifaces, maps, wideKeys, modest, calm, conditions, laid).
  DERIVED. THE GIVEN ROWS OF THIS SEAT. 5 by the template 'for every input the law returns true; each argument reads behind the call as it read before'; 0 by the template 'total and deterministic' (their statements: YthmecidpjlaonaaGreatTotals.lean).
  GIVEN WITH THE SEED: the statements are not yours to turn. If you find one false, say at which input.
  Laid BY PROGRAM, IN A SANDBOX (cutbox-rows.mjs): the forced cells as the released guide's own fill.sh prints them over the translation baa8a4b5b1bdc829… (all of the seat's roots in one cut). By AI agents, Wed Nov 11 2026. No macro, syntax, notation, axiom, sorry.
-/
import Derived.Test.YthmecidpjlaonaaGreatChecked
import GoSem.Claim
import GoSem.ClaimJoined
import GoSem.ClaimMapViews
import Derived.JoinedTies
import Derived.KernelRfl
namespace Go.Proofs.YthmecidpjlaonaaGreat
/- THE CELL 'sum', in the pinned program and in every row, IS THE sha256 OF THE DUMP (.gsa) THAT YthmecidpjlaonaaGreatProg.lean LOADS. Nothing in Lean hashes anything: it is a label: what it is worth is what the hold of that sum in a sandbox is worth. -/
noncomputable def Tryz.pinned : Pinned := { name := "ythmecidpjlaonaagreat", sum := "baa8a4b5b1bdc829236adc52599110e2dd8c7ebac885ad324016ece5983e48dd", checked := Tryz.checked }
namespace Rows
def none {H : Type} : Left H := { results := [], args := [] }

/-- 'forkledgerlaw9.EvidenceFinds': WHATEVER THE INPUT: true; the input reads as it did. -/
def evidenceFindsSpec : ChangeSpec := { name := "evidenceFinds", fn := fun _ => fun
  | [d1, d2] => { results := [.lit (.bool true)], args := [d1, d2] }
  | _ => none }
def evidenceFindsRow : OpenClaim := { program := "ythmecidpjlaonaagreat", sum := "baa8a4b5b1bdc829236adc52599110e2dd8c7ebac885ad324016ece5983e48dd", func := "forkledger/forkledgerlaw9.EvidenceFinds", spec := "evidenceFinds", inPlace := ["internal/bytealg.Compare", "internal/reflectlite.ValueOf", "internal/reflectlite.Swapper", "(internal/reflectlite.Value).Len"], unfollowed := true, recurses := true, plainKeys := false, apart := false }
def EvidenceFindsSaid : Prop := evidenceFindsRow.holds Tryz.pinned (OpenSpec.ofChange evidenceFindsSpec)

/-- ITS FALSE NEIGHBOUR: 'it returns false'. Refute it at one input. -/
def evidenceFindsWrong : ChangeSpec := { name := "evidenceFinds", fn := fun _ => fun
  | [d1, d2] => { results := [.lit (.bool false)], args := [d1, d2] }
  | _ => none }
def EvidenceFindsWrongFalsely : Prop := evidenceFindsRow.holds Tryz.pinned (OpenSpec.ofChange evidenceFindsWrong)

/-- 'forkledgerlaw8.SignedVerifies': WHATEVER THE INPUT: true; the input reads as it did. -/
def signedVerifiesSpec : ChangeSpec := { name := "signedVerifies", fn := fun _ => fun
  | [d1, d2, d3, d4, d5, d6, d7, d8] => { results := [.lit (.bool true)], args := [d1, d2, d3, d4, d5, d6, d7, d8] }
  | _ => none }
def signedVerifiesRow : OpenClaim := { program := "ythmecidpjlaonaagreat", sum := "baa8a4b5b1bdc829236adc52599110e2dd8c7ebac885ad324016ece5983e48dd", func := "forkledger/forkledgerlaw8.SignedVerifies", spec := "signedVerifies", inPlace := ["internal/bytealg.Compare", "internal/reflectlite.ValueOf", "internal/reflectlite.Swapper", "(internal/reflectlite.Value).Len"], unfollowed := true, recurses := true, plainKeys := false, apart := false }
def SignedVerifiesSaid : Prop := signedVerifiesRow.holds Tryz.pinned (OpenSpec.ofChange signedVerifiesSpec)

/-- ITS FALSE NEIGHBOUR: 'it returns false'. Refute it at one input. -/
def signedVerifiesWrong : ChangeSpec := { name := "signedVerifies", fn := fun _ => fun
  | [d1, d2, d3, d4, d5, d6, d7, d8] => { results := [.lit (.bool false)], args := [d1, d2, d3, d4, d5, d6, d7, d8] }
  | _ => none }
def SignedVerifiesWrongFalsely : Prop := signedVerifiesRow.holds Tryz.pinned (OpenSpec.ofChange signedVerifiesWrong)

/-- 'forkledgerlaw9.EvidenceValid': WHATEVER THE INPUT: true; the input reads as it did. -/
def evidenceValidSpec : ChangeSpec := { name := "evidenceValid", fn := fun _ => fun
  | [d1, d2, d3] => { results := [.lit (.bool true)], args := [d1, d2, d3] }
  | _ => none }
def evidenceValidRow : OpenClaim := { program := "ythmecidpjlaonaagreat", sum := "baa8a4b5b1bdc829236adc52599110e2dd8c7ebac885ad324016ece5983e48dd", func := "forkledger/forkledgerlaw9.EvidenceValid", spec := "evidenceValid", inPlace := ["internal/bytealg.Compare", "internal/reflectlite.ValueOf", "internal/reflectlite.Swapper", "(internal/reflectlite.Value).Len"], unfollowed := true, recurses := true, plainKeys := false, apart := false }
def EvidenceValidSaid : Prop := evidenceValidRow.holds Tryz.pinned (OpenSpec.ofChange evidenceValidSpec)

/-- ITS FALSE NEIGHBOUR: 'it returns false'. Refute it at one input. -/
def evidenceValidWrong : ChangeSpec := { name := "evidenceValid", fn := fun _ => fun
  | [d1, d2, d3] => { results := [.lit (.bool false)], args := [d1, d2, d3] }
  | _ => none }
def EvidenceValidWrongFalsely : Prop := evidenceValidRow.holds Tryz.pinned (OpenSpec.ofChange evidenceValidWrong)

/-- 'forkledgerlaw18.ForensicsExact': WHATEVER THE INPUT: true; the input reads as it did. -/
def forensicsExactSpec : ChangeSpec := { name := "forensicsExact", fn := fun _ => fun
  | [d1, d2, d3, d4] => { results := [.lit (.bool true)], args := [d1, d2, d3, d4] }
  | _ => none }
def forensicsExactRow : OpenClaim := { program := "ythmecidpjlaonaagreat", sum := "baa8a4b5b1bdc829236adc52599110e2dd8c7ebac885ad324016ece5983e48dd", func := "forkledger/forkledgerlaw18.ForensicsExact", spec := "forensicsExact", inPlace := ["internal/bytealg.Compare", "internal/reflectlite.ValueOf", "internal/reflectlite.Swapper", "(internal/reflectlite.Value).Len"], unfollowed := true, recurses := true, plainKeys := false, apart := false }
def ForensicsExactSaid : Prop := forensicsExactRow.holds Tryz.pinned (OpenSpec.ofChange forensicsExactSpec)

/-- ITS FALSE NEIGHBOUR: 'it returns false'. Refute it at one input. -/
def forensicsExactWrong : ChangeSpec := { name := "forensicsExact", fn := fun _ => fun
  | [d1, d2, d3, d4] => { results := [.lit (.bool false)], args := [d1, d2, d3, d4] }
  | _ => none }
def ForensicsExactWrongFalsely : Prop := forensicsExactRow.holds Tryz.pinned (OpenSpec.ofChange forensicsExactWrong)

/-- 'forkledgerlaw18.ForensicsAccounts': WHATEVER THE INPUT: true; the input reads as it did. -/
def forensicsAccountsSpec : ChangeSpec := { name := "forensicsAccounts", fn := fun _ => fun
  | [d1, d2, d3, d4, d5] => { results := [.lit (.bool true)], args := [d1, d2, d3, d4, d5] }
  | _ => none }
def forensicsAccountsRow : OpenClaim := { program := "ythmecidpjlaonaagreat", sum := "baa8a4b5b1bdc829236adc52599110e2dd8c7ebac885ad324016ece5983e48dd", func := "forkledger/forkledgerlaw18.ForensicsAccounts", spec := "forensicsAccounts", inPlace := ["internal/bytealg.Compare", "internal/reflectlite.ValueOf", "internal/reflectlite.Swapper", "(internal/reflectlite.Value).Len"], unfollowed := true, recurses := true, plainKeys := false, apart := false }
def ForensicsAccountsSaid : Prop := forensicsAccountsRow.holds Tryz.pinned (OpenSpec.ofChange forensicsAccountsSpec)

/-- ITS FALSE NEIGHBOUR: 'it returns false'. Refute it at one input. -/
def forensicsAccountsWrong : ChangeSpec := { name := "forensicsAccounts", fn := fun _ => fun
  | [d1, d2, d3, d4, d5] => { results := [.lit (.bool false)], args := [d1, d2, d3, d4, d5] }
  | _ => none }
def ForensicsAccountsWrongFalsely : Prop := forensicsAccountsRow.holds Tryz.pinned (OpenSpec.ofChange forensicsAccountsWrong)

/- THE SECOND FORM. 'bulk': how many values and letters a reading holds, each counted each time it is reached (what is shared counts as often as it is met; a slice's spare places count too). A statement '..UptoSaid' is the law's where the arguments, and the package variables that the reading takes, are together of bulk at most 1048576: NARROWER than '..Said'. Prove '..Said' where nothing that the law and all that it calls make is longer than what came in: it says more and counts as full. Else prove '..UptoSaid'. A law counts once. -/
mutual
def uptoBulk {H : Type} : DataW H → Nat
  | .lit (.string bytes) => bytes.length + 1
  | .lit _ => 1
  | .nil => 1
  | .ptr d => uptoBulk d + 1
  | .slice elems spare => uptoBulkAll elems + uptoBulkAll spare + 1
  | .agg parts => uptoBulkAll parts + 1
  | .iface _ d => uptoBulk d + 1
  | .map entries => uptoBulkEntries entries + 1
  | .held _ => 1
def uptoBulkAll {H : Type} : List (DataW H) → Nat
  | [] => 0
  | d :: r => uptoBulk d + uptoBulkAll r
def uptoBulkEntries {H : Type} : List (Lit × DataW H) → Nat
  | [] => 0
  | x :: r => uptoBulkEntry x + uptoBulkEntries r
def uptoBulkEntry {H : Type} : Lit × DataW H → Nat
  | (.string bytes, d) => bytes.length + uptoBulk d + 1
  | (_, d) => uptoBulk d + 1
 end
def uptoSmall : (H : Type) → List (DataW H) → Bool := fun _ ds => decide (uptoBulkAll ds ≤ 1048576)
def OpenSpec.upto (s : _root_.Go.ChangeSpec) : _root_.Go.OpenSpec := { _root_.Go.OpenSpec.ofChange s with cond := some uptoSmall }

/-- 'forkledgerlaw9.EvidenceFinds', WHERE WHAT IT READS IS OF BULK AT MOST 1048576: true; the input reads as it did. -/
def evidenceFindsUptoRow : OpenClaim := { program := "ythmecidpjlaonaagreat", sum := "baa8a4b5b1bdc829236adc52599110e2dd8c7ebac885ad324016ece5983e48dd", func := "forkledger/forkledgerlaw9.EvidenceFinds", spec := "evidenceFinds", inPlace := ["internal/bytealg.Compare", "internal/reflectlite.ValueOf", "internal/reflectlite.Swapper", "(internal/reflectlite.Value).Len"], unfollowed := true, recurses := true, plainKeys := false, apart := false, narrowed := true }
def EvidenceFindsUptoSaid : Prop := evidenceFindsUptoRow.holds Tryz.pinned (OpenSpec.upto evidenceFindsSpec)

/-- 'forkledgerlaw8.SignedVerifies', WHERE WHAT IT READS IS OF BULK AT MOST 1048576: true; the input reads as it did. -/
def signedVerifiesUptoRow : OpenClaim := { program := "ythmecidpjlaonaagreat", sum := "baa8a4b5b1bdc829236adc52599110e2dd8c7ebac885ad324016ece5983e48dd", func := "forkledger/forkledgerlaw8.SignedVerifies", spec := "signedVerifies", inPlace := ["internal/bytealg.Compare", "internal/reflectlite.ValueOf", "internal/reflectlite.Swapper", "(internal/reflectlite.Value).Len"], unfollowed := true, recurses := true, plainKeys := false, apart := false, narrowed := true }
def SignedVerifiesUptoSaid : Prop := signedVerifiesUptoRow.holds Tryz.pinned (OpenSpec.upto signedVerifiesSpec)

/-- 'forkledgerlaw9.EvidenceValid', WHERE WHAT IT READS IS OF BULK AT MOST 1048576: true; the input reads as it did. -/
def evidenceValidUptoRow : OpenClaim := { program := "ythmecidpjlaonaagreat", sum := "baa8a4b5b1bdc829236adc52599110e2dd8c7ebac885ad324016ece5983e48dd", func := "forkledger/forkledgerlaw9.EvidenceValid", spec := "evidenceValid", inPlace := ["internal/bytealg.Compare", "internal/reflectlite.ValueOf", "internal/reflectlite.Swapper", "(internal/reflectlite.Value).Len"], unfollowed := true, recurses := true, plainKeys := false, apart := false, narrowed := true }
def EvidenceValidUptoSaid : Prop := evidenceValidUptoRow.holds Tryz.pinned (OpenSpec.upto evidenceValidSpec)

/-- 'forkledgerlaw18.ForensicsExact', WHERE WHAT IT READS IS OF BULK AT MOST 1048576: true; the input reads as it did. -/
def forensicsExactUptoRow : OpenClaim := { program := "ythmecidpjlaonaagreat", sum := "baa8a4b5b1bdc829236adc52599110e2dd8c7ebac885ad324016ece5983e48dd", func := "forkledger/forkledgerlaw18.ForensicsExact", spec := "forensicsExact", inPlace := ["internal/bytealg.Compare", "internal/reflectlite.ValueOf", "internal/reflectlite.Swapper", "(internal/reflectlite.Value).Len"], unfollowed := true, recurses := true, plainKeys := false, apart := false, narrowed := true }
def ForensicsExactUptoSaid : Prop := forensicsExactUptoRow.holds Tryz.pinned (OpenSpec.upto forensicsExactSpec)

/-- 'forkledgerlaw18.ForensicsAccounts', WHERE WHAT IT READS IS OF BULK AT MOST 1048576: true; the input reads as it did. -/
def forensicsAccountsUptoRow : OpenClaim := { program := "ythmecidpjlaonaagreat", sum := "baa8a4b5b1bdc829236adc52599110e2dd8c7ebac885ad324016ece5983e48dd", func := "forkledger/forkledgerlaw18.ForensicsAccounts", spec := "forensicsAccounts", inPlace := ["internal/bytealg.Compare", "internal/reflectlite.ValueOf", "internal/reflectlite.Swapper", "(internal/reflectlite.Value).Len"], unfollowed := true, recurses := true, plainKeys := false, apart := false, narrowed := true }
def ForensicsAccountsUptoSaid : Prop := forensicsAccountsUptoRow.holds Tryz.pinned (OpenSpec.upto forensicsAccountsSpec)

end Rows
end Go.Proofs.YthmecidpjlaonaaGreat
