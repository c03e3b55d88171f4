/-
  No cell of these rows narrows 'for every input' (looked for: loops, veiled, ifaces, maps, wideKeys, modest, calm, conditions, laid).
  DERIVED. THE GIVEN ROWS OF THIS SEAT. 8 by the template 'for every input the law returns true; each argument reads behind the call as it read before'; 0 by the template 'total and deterministic' (their statements: YtadllffeoibelaaGreatTotals.lean).
  GIVEN WITH THE SEED: the statements are not yours to turn. If you find one false, say at which input.
  Laid BY PROGRAM, IN A SANDBOX (cutbox-rows.mjs): the forced cells as the released guide's own fill.sh prints them over the translation f8988a9a4b4417ac… (all of the seat's roots in one cut). By AI agents, Wed Nov 11 2026. No macro, syntax, notation, axiom, sorry.
-/
import Derived.Test.YtadllffeoibelaaGreatChecked
import GoSem.Claim
import GoSem.ClaimJoined
import GoSem.ClaimMapViews
import Derived.JoinedTies
import Derived.KernelRfl
namespace Go.Proofs.YtadllffeoibelaaGreat
/- THE CELL 'sum', in the pinned program and in every row, IS THE sha256 OF THE DUMP (.gsa) THAT YtadllffeoibelaaGreatProg.lean LOADS. Nothing in Lean hashes anything: it is a label: what it is worth is what the hold of that sum in a sandbox is worth. -/
noncomputable def Tryz.pinned : Pinned := { name := "ytadllffeoibelaagreat", sum := "f8988a9a4b4417accc483055dd4eeaa784cc5da21bbd1009f9275153dc4adcae", checked := Tryz.checked }
namespace Rows
def none {H : Type} : Left H := { results := [], args := [] }

/-- 'forkledgerlaw19.GameAgrees': WHATEVER THE INPUT: true; the input reads as it did. -/
def gameAgreesSpec : ChangeSpec := { name := "gameAgrees", fn := fun _ => fun
  | [d1, d2] => { results := [.lit (.bool true)], args := [d1, d2] }
  | _ => none }
def gameAgreesRow : OpenClaim := { program := "ytadllffeoibelaagreat", sum := "f8988a9a4b4417accc483055dd4eeaa784cc5da21bbd1009f9275153dc4adcae", func := "forkledger/forkledgerlaw19.GameAgrees", spec := "gameAgrees", inPlace := ["internal/bytealg.Compare", "internal/reflectlite.ValueOf", "internal/reflectlite.Swapper", "(internal/reflectlite.Value).Len"], unfollowed := true, recurses := true, plainKeys := false, apart := false }
def GameAgreesSaid : Prop := gameAgreesRow.holds Tryz.pinned (OpenSpec.ofChange gameAgreesSpec)

/-- ITS FALSE NEIGHBOUR: 'it returns false'. Refute it at one input. -/
def gameAgreesWrong : ChangeSpec := { name := "gameAgrees", fn := fun _ => fun
  | [d1, d2] => { results := [.lit (.bool false)], args := [d1, d2] }
  | _ => none }
def GameAgreesWrongFalsely : Prop := gameAgreesRow.holds Tryz.pinned (OpenSpec.ofChange gameAgreesWrong)

/-- 'forkledgerlaw19.GameMeets': WHATEVER THE INPUT: true; the input reads as it did. -/
def gameMeetsSpec : ChangeSpec := { name := "gameMeets", fn := fun _ => fun
  | [d1, d2, d3] => { results := [.lit (.bool true)], args := [d1, d2, d3] }
  | _ => none }
def gameMeetsRow : OpenClaim := { program := "ytadllffeoibelaagreat", sum := "f8988a9a4b4417accc483055dd4eeaa784cc5da21bbd1009f9275153dc4adcae", func := "forkledger/forkledgerlaw19.GameMeets", spec := "gameMeets", inPlace := ["internal/bytealg.Compare", "internal/reflectlite.ValueOf", "internal/reflectlite.Swapper", "(internal/reflectlite.Value).Len"], unfollowed := true, recurses := true, plainKeys := false, apart := false }
def GameMeetsSaid : Prop := gameMeetsRow.holds Tryz.pinned (OpenSpec.ofChange gameMeetsSpec)

/-- ITS FALSE NEIGHBOUR: 'it returns false'. Refute it at one input. -/
def gameMeetsWrong : ChangeSpec := { name := "gameMeets", fn := fun _ => fun
  | [d1, d2, d3] => { results := [.lit (.bool false)], args := [d1, d2, d3] }
  | _ => none }
def GameMeetsWrongFalsely : Prop := gameMeetsRow.holds Tryz.pinned (OpenSpec.ofChange gameMeetsWrong)

/-- 'forkledgerlaw19.GameSilent': WHATEVER THE INPUT: true; the input reads as it did. -/
def gameSilentSpec : ChangeSpec := { name := "gameSilent", fn := fun _ => fun
  | [d1, d2, d3] => { results := [.lit (.bool true)], args := [d1, d2, d3] }
  | _ => none }
def gameSilentRow : OpenClaim := { program := "ytadllffeoibelaagreat", sum := "f8988a9a4b4417accc483055dd4eeaa784cc5da21bbd1009f9275153dc4adcae", func := "forkledger/forkledgerlaw19.GameSilent", spec := "gameSilent", inPlace := ["internal/bytealg.Compare", "internal/reflectlite.ValueOf", "internal/reflectlite.Swapper", "(internal/reflectlite.Value).Len"], unfollowed := true, recurses := true, plainKeys := false, apart := false }
def GameSilentSaid : Prop := gameSilentRow.holds Tryz.pinned (OpenSpec.ofChange gameSilentSpec)

/-- ITS FALSE NEIGHBOUR: 'it returns false'. Refute it at one input. -/
def gameSilentWrong : ChangeSpec := { name := "gameSilent", fn := fun _ => fun
  | [d1, d2, d3] => { results := [.lit (.bool false)], args := [d1, d2, d3] }
  | _ => none }
def GameSilentWrongFalsely : Prop := gameSilentRow.holds Tryz.pinned (OpenSpec.ofChange gameSilentWrong)

/-- 'forkledgerlaw19.GameEnds': WHATEVER THE INPUT: true; the input reads as it did. -/
def gameEndsSpec : ChangeSpec := { name := "gameEnds", fn := fun _ => fun
  | [d1, d2] => { results := [.lit (.bool true)], args := [d1, d2] }
  | _ => none }
def gameEndsRow : OpenClaim := { program := "ytadllffeoibelaagreat", sum := "f8988a9a4b4417accc483055dd4eeaa784cc5da21bbd1009f9275153dc4adcae", func := "forkledger/forkledgerlaw19.GameEnds", spec := "gameEnds", inPlace := ["internal/bytealg.Compare", "internal/reflectlite.ValueOf", "internal/reflectlite.Swapper", "(internal/reflectlite.Value).Len"], unfollowed := true, recurses := true, plainKeys := false, apart := false }
def GameEndsSaid : Prop := gameEndsRow.holds Tryz.pinned (OpenSpec.ofChange gameEndsSpec)

/-- ITS FALSE NEIGHBOUR: 'it returns false'. Refute it at one input. -/
def gameEndsWrong : ChangeSpec := { name := "gameEnds", fn := fun _ => fun
  | [d1, d2] => { results := [.lit (.bool false)], args := [d1, d2] }
  | _ => none }
def GameEndsWrongFalsely : Prop := gameEndsRow.holds Tryz.pinned (OpenSpec.ofChange gameEndsWrong)

/-- 'forkledgerlaw19.GameHonest': WHATEVER THE INPUT: true; the input reads as it did. -/
def gameHonestSpec : ChangeSpec := { name := "gameHonest", fn := fun _ => fun
  | [d1, d2] => { results := [.lit (.bool true)], args := [d1, d2] }
  | _ => none }
def gameHonestRow : OpenClaim := { program := "ytadllffeoibelaagreat", sum := "f8988a9a4b4417accc483055dd4eeaa784cc5da21bbd1009f9275153dc4adcae", func := "forkledger/forkledgerlaw19.GameHonest", spec := "gameHonest", inPlace := ["internal/bytealg.Compare", "internal/reflectlite.ValueOf", "internal/reflectlite.Swapper", "(internal/reflectlite.Value).Len"], unfollowed := true, recurses := true, plainKeys := false, apart := false }
def GameHonestSaid : Prop := gameHonestRow.holds Tryz.pinned (OpenSpec.ofChange gameHonestSpec)

/-- ITS FALSE NEIGHBOUR: 'it returns false'. Refute it at one input. -/
def gameHonestWrong : ChangeSpec := { name := "gameHonest", fn := fun _ => fun
  | [d1, d2] => { results := [.lit (.bool false)], args := [d1, d2] }
  | _ => none }
def GameHonestWrongFalsely : Prop := gameHonestRow.holds Tryz.pinned (OpenSpec.ofChange gameHonestWrong)

/-- 'forkledgerlaw19.GamePlays': WHATEVER THE INPUT: true; the input reads as it did. -/
def gamePlaysSpec : ChangeSpec := { name := "gamePlays", fn := fun _ => fun
  | [d1, d2] => { results := [.lit (.bool true)], args := [d1, d2] }
  | _ => none }
def gamePlaysRow : OpenClaim := { program := "ytadllffeoibelaagreat", sum := "f8988a9a4b4417accc483055dd4eeaa784cc5da21bbd1009f9275153dc4adcae", func := "forkledger/forkledgerlaw19.GamePlays", spec := "gamePlays", inPlace := ["internal/bytealg.Compare", "internal/reflectlite.ValueOf", "internal/reflectlite.Swapper", "(internal/reflectlite.Value).Len"], unfollowed := true, recurses := true, plainKeys := false, apart := false }
def GamePlaysSaid : Prop := gamePlaysRow.holds Tryz.pinned (OpenSpec.ofChange gamePlaysSpec)

/-- ITS FALSE NEIGHBOUR: 'it returns false'. Refute it at one input. -/
def gamePlaysWrong : ChangeSpec := { name := "gamePlays", fn := fun _ => fun
  | [d1, d2] => { results := [.lit (.bool false)], args := [d1, d2] }
  | _ => none }
def GamePlaysWrongFalsely : Prop := gamePlaysRow.holds Tryz.pinned (OpenSpec.ofChange gamePlaysWrong)

/-- 'forkledgerlaw19.GameNil': WHATEVER THE INPUT: true; the input reads as it did. -/
def gameNilSpec : ChangeSpec := { name := "gameNil", fn := fun _ => fun
  | [d1, d2] => { results := [.lit (.bool true)], args := [d1, d2] }
  | _ => none }
def gameNilRow : OpenClaim := { program := "ytadllffeoibelaagreat", sum := "f8988a9a4b4417accc483055dd4eeaa784cc5da21bbd1009f9275153dc4adcae", func := "forkledger/forkledgerlaw19.GameNil", spec := "gameNil", inPlace := ["internal/bytealg.Compare", "internal/reflectlite.ValueOf", "internal/reflectlite.Swapper", "(internal/reflectlite.Value).Len"], unfollowed := true, recurses := true, plainKeys := false, apart := false }
def GameNilSaid : Prop := gameNilRow.holds Tryz.pinned (OpenSpec.ofChange gameNilSpec)

/-- ITS FALSE NEIGHBOUR: 'it returns false'. Refute it at one input. -/
def gameNilWrong : ChangeSpec := { name := "gameNil", fn := fun _ => fun
  | [d1, d2] => { results := [.lit (.bool false)], args := [d1, d2] }
  | _ => none }
def GameNilWrongFalsely : Prop := gameNilRow.holds Tryz.pinned (OpenSpec.ofChange gameNilWrong)

/-- 'forkledgerlaw19.GameAccounts': WHATEVER THE INPUT: true; the input reads as it did. -/
def gameAccountsSpec : ChangeSpec := { name := "gameAccounts", fn := fun _ => fun
  | [d1, d2] => { results := [.lit (.bool true)], args := [d1, d2] }
  | _ => none }
def gameAccountsRow : OpenClaim := { program := "ytadllffeoibelaagreat", sum := "f8988a9a4b4417accc483055dd4eeaa784cc5da21bbd1009f9275153dc4adcae", func := "forkledger/forkledgerlaw19.GameAccounts", spec := "gameAccounts", inPlace := ["internal/bytealg.Compare", "internal/reflectlite.ValueOf", "internal/reflectlite.Swapper", "(internal/reflectlite.Value).Len"], unfollowed := true, recurses := true, plainKeys := false, apart := false }
def GameAccountsSaid : Prop := gameAccountsRow.holds Tryz.pinned (OpenSpec.ofChange gameAccountsSpec)

/-- ITS FALSE NEIGHBOUR: 'it returns false'. Refute it at one input. -/
def gameAccountsWrong : ChangeSpec := { name := "gameAccounts", fn := fun _ => fun
  | [d1, d2] => { results := [.lit (.bool false)], args := [d1, d2] }
  | _ => none }
def GameAccountsWrongFalsely : Prop := gameAccountsRow.holds Tryz.pinned (OpenSpec.ofChange gameAccountsWrong)

/- THE SECOND FORM. 'bulk': how many values and letters a reading holds, each counted each time it is reached (what is shared counts as often as it is met; a slice's spare places count too). A statement '..UptoSaid' is the law's where the arguments, and the package variables that the reading takes, are together of bulk at most 1048576: NARROWER than '..Said'. Prove '..Said' where nothing that the law and all that it calls make is longer than what came in: it says more and counts as full. Else prove '..UptoSaid'. A law counts once. -/
mutual
def uptoBulk {H : Type} : DataW H → Nat
  | .lit (.string bytes) => bytes.length + 1
  | .lit _ => 1
  | .nil => 1
  | .ptr d => uptoBulk d + 1
  | .slice elems spare => uptoBulkAll elems + uptoBulkAll spare + 1
  | .agg parts => uptoBulkAll parts + 1
  | .iface _ d => uptoBulk d + 1
  | .map entries => uptoBulkEntries entries + 1
  | .held _ => 1
def uptoBulkAll {H : Type} : List (DataW H) → Nat
  | [] => 0
  | d :: r => uptoBulk d + uptoBulkAll r
def uptoBulkEntries {H : Type} : List (Lit × DataW H) → Nat
  | [] => 0
  | x :: r => uptoBulkEntry x + uptoBulkEntries r
def uptoBulkEntry {H : Type} : Lit × DataW H → Nat
  | (.string bytes, d) => bytes.length + uptoBulk d + 1
  | (_, d) => uptoBulk d + 1
 end
def uptoSmall : (H : Type) → List (DataW H) → Bool := fun _ ds => decide (uptoBulkAll ds ≤ 1048576)
def OpenSpec.upto (s : _root_.Go.ChangeSpec) : _root_.Go.OpenSpec := { _root_.Go.OpenSpec.ofChange s with cond := some uptoSmall }

/-- 'forkledgerlaw19.GameAgrees', WHERE WHAT IT READS IS OF BULK AT MOST 1048576: true; the input reads as it did. -/
def gameAgreesUptoRow : OpenClaim := { program := "ytadllffeoibelaagreat", sum := "f8988a9a4b4417accc483055dd4eeaa784cc5da21bbd1009f9275153dc4adcae", func := "forkledger/forkledgerlaw19.GameAgrees", spec := "gameAgrees", inPlace := ["internal/bytealg.Compare", "internal/reflectlite.ValueOf", "internal/reflectlite.Swapper", "(internal/reflectlite.Value).Len"], unfollowed := true, recurses := true, plainKeys := false, apart := false, narrowed := true }
def GameAgreesUptoSaid : Prop := gameAgreesUptoRow.holds Tryz.pinned (OpenSpec.upto gameAgreesSpec)

/-- 'forkledgerlaw19.GameMeets', WHERE WHAT IT READS IS OF BULK AT MOST 1048576: true; the input reads as it did. -/
def gameMeetsUptoRow : OpenClaim := { program := "ytadllffeoibelaagreat", sum := "f8988a9a4b4417accc483055dd4eeaa784cc5da21bbd1009f9275153dc4adcae", func := "forkledger/forkledgerlaw19.GameMeets", spec := "gameMeets", inPlace := ["internal/bytealg.Compare", "internal/reflectlite.ValueOf", "internal/reflectlite.Swapper", "(internal/reflectlite.Value).Len"], unfollowed := true, recurses := true, plainKeys := false, apart := false, narrowed := true }
def GameMeetsUptoSaid : Prop := gameMeetsUptoRow.holds Tryz.pinned (OpenSpec.upto gameMeetsSpec)

/-- 'forkledgerlaw19.GameSilent', WHERE WHAT IT READS IS OF BULK AT MOST 1048576: true; the input reads as it did. -/
def gameSilentUptoRow : OpenClaim := { program := "ytadllffeoibelaagreat", sum := "f8988a9a4b4417accc483055dd4eeaa784cc5da21bbd1009f9275153dc4adcae", func := "forkledger/forkledgerlaw19.GameSilent", spec := "gameSilent", inPlace := ["internal/bytealg.Compare", "internal/reflectlite.ValueOf", "internal/reflectlite.Swapper", "(internal/reflectlite.Value).Len"], unfollowed := true, recurses := true, plainKeys := false, apart := false, narrowed := true }
def GameSilentUptoSaid : Prop := gameSilentUptoRow.holds Tryz.pinned (OpenSpec.upto gameSilentSpec)

/-- 'forkledgerlaw19.GameEnds', WHERE WHAT IT READS IS OF BULK AT MOST 1048576: true; the input reads as it did. -/
def gameEndsUptoRow : OpenClaim := { program := "ytadllffeoibelaagreat", sum := "f8988a9a4b4417accc483055dd4eeaa784cc5da21bbd1009f9275153dc4adcae", func := "forkledger/forkledgerlaw19.GameEnds", spec := "gameEnds", inPlace := ["internal/bytealg.Compare", "internal/reflectlite.ValueOf", "internal/reflectlite.Swapper", "(internal/reflectlite.Value).Len"], unfollowed := true, recurses := true, plainKeys := false, apart := false, narrowed := true }
def GameEndsUptoSaid : Prop := gameEndsUptoRow.holds Tryz.pinned (OpenSpec.upto gameEndsSpec)

/-- 'forkledgerlaw19.GameHonest', WHERE WHAT IT READS IS OF BULK AT MOST 1048576: true; the input reads as it did. -/
def gameHonestUptoRow : OpenClaim := { program := "ytadllffeoibelaagreat", sum := "f8988a9a4b4417accc483055dd4eeaa784cc5da21bbd1009f9275153dc4adcae", func := "forkledger/forkledgerlaw19.GameHonest", spec := "gameHonest", inPlace := ["internal/bytealg.Compare", "internal/reflectlite.ValueOf", "internal/reflectlite.Swapper", "(internal/reflectlite.Value).Len"], unfollowed := true, recurses := true, plainKeys := false, apart := false, narrowed := true }
def GameHonestUptoSaid : Prop := gameHonestUptoRow.holds Tryz.pinned (OpenSpec.upto gameHonestSpec)

/-- 'forkledgerlaw19.GamePlays', WHERE WHAT IT READS IS OF BULK AT MOST 1048576: true; the input reads as it did. -/
def gamePlaysUptoRow : OpenClaim := { program := "ytadllffeoibelaagreat", sum := "f8988a9a4b4417accc483055dd4eeaa784cc5da21bbd1009f9275153dc4adcae", func := "forkledger/forkledgerlaw19.GamePlays", spec := "gamePlays", inPlace := ["internal/bytealg.Compare", "internal/reflectlite.ValueOf", "internal/reflectlite.Swapper", "(internal/reflectlite.Value).Len"], unfollowed := true, recurses := true, plainKeys := false, apart := false, narrowed := true }
def GamePlaysUptoSaid : Prop := gamePlaysUptoRow.holds Tryz.pinned (OpenSpec.upto gamePlaysSpec)

/-- 'forkledgerlaw19.GameNil', WHERE WHAT IT READS IS OF BULK AT MOST 1048576: true; the input reads as it did. -/
def gameNilUptoRow : OpenClaim := { program := "ytadllffeoibelaagreat", sum := "f8988a9a4b4417accc483055dd4eeaa784cc5da21bbd1009f9275153dc4adcae", func := "forkledger/forkledgerlaw19.GameNil", spec := "gameNil", inPlace := ["internal/bytealg.Compare", "internal/reflectlite.ValueOf", "internal/reflectlite.Swapper", "(internal/reflectlite.Value).Len"], unfollowed := true, recurses := true, plainKeys := false, apart := false, narrowed := true }
def GameNilUptoSaid : Prop := gameNilUptoRow.holds Tryz.pinned (OpenSpec.upto gameNilSpec)

/-- 'forkledgerlaw19.GameAccounts', WHERE WHAT IT READS IS OF BULK AT MOST 1048576: true; the input reads as it did. -/
def gameAccountsUptoRow : OpenClaim := { program := "ytadllffeoibelaagreat", sum := "f8988a9a4b4417accc483055dd4eeaa784cc5da21bbd1009f9275153dc4adcae", func := "forkledger/forkledgerlaw19.GameAccounts", spec := "gameAccounts", inPlace := ["internal/bytealg.Compare", "internal/reflectlite.ValueOf", "internal/reflectlite.Swapper", "(internal/reflectlite.Value).Len"], unfollowed := true, recurses := true, plainKeys := false, apart := false, narrowed := true }
def GameAccountsUptoSaid : Prop := gameAccountsUptoRow.holds Tryz.pinned (OpenSpec.upto gameAccountsSpec)

end Rows
end Go.Proofs.YtadllffeoibelaaGreat
