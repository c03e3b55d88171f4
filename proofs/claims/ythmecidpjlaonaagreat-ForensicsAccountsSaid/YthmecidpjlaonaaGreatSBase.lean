/-
  Plain data of the ledger's program (names, votes) and how they lie in cells; the rules that turn the walk's integers into UInt64's. No condition.
-/
import Derived.Test.YthmecidpjlaonaaGreatProg
import Derived.WalkKit
import Derived.WalkLawsBesides
import Derived.WalkSpells
import Derived.Laws.StructEq
import Derived.Laws.BitsAllLaws
import Derived.Laws.BitsLemmas
namespace Go.Proofs.YthmecidpjlaonaaGreat
open Go.RowKit

abbrev B (b : UInt8) : Value := .int .u8 (b.toNat : Int)
abbrev I (n : Int) : Value := .int .i64 n
abbrev U (x : UInt64) : Value := .int .u64 (x.toNat : Int)

structure Nm where
  b0 : UInt8
  b1 : UInt8
  b2 : UInt8
  b3 : UInt8
  b4 : UInt8
  b5 : UInt8
  b6 : UInt8
  b7 : UInt8
  deriving DecidableEq

namespace Nm
def bytes (n : Nm) : List UInt8 := [n.b0, n.b1, n.b2, n.b3, n.b4, n.b5, n.b6, n.b7]
abbrev val (n : Nm) : Value := .agg #[B n.b0, B n.b1, B n.b2, B n.b3, B n.b4, B n.b5, B n.b6, B n.b7]
abbrev zero : Nm := ⟨0, 0, 0, 0, 0, 0, 0, 0⟩
def ofList (l : List UInt8) : Nm := ⟨l.getD 0 0, l.getD 1 0, l.getD 2 0, l.getD 3 0, l.getD 4 0, l.getD 5 0, l.getD 6 0, l.getD 7 0⟩
end Nm

structure Vt where
  kind : Int
  slot : Int
  round : Int
  choice : Int
  signer : Int
  support : Int
  parent : Nm
  value : Nm
  deriving DecidableEq

namespace Vt
abbrev cells (v : Vt) : Array Value := #[I v.kind, I v.slot, I v.round, I v.choice, I v.signer, I v.support,
  B v.parent.b0, B v.parent.b1, B v.parent.b2, B v.parent.b3, B v.parent.b4, B v.parent.b5, B v.parent.b6, B v.parent.b7,
  B v.value.b0, B v.value.b1, B v.value.b2, B v.value.b3, B v.value.b4, B v.value.b5, B v.value.b6, B v.value.b7]
abbrev val (v : Vt) : Value := .agg v.cells
end Vt

theorem u64_lt (x : UInt64) : x.toNat < 18446744073709551616 := x.toNat_lt
theorem ofInt_u64 (x : UInt64) : (BitVec.ofInt 64 (x.toNat : Int)) = x.toBitVec := by
  rw [BitVec.ofInt_natCast]; simp [← UInt64.toNat_toBitVec]
theorem u_xor (x y : UInt64) : bits .xor .u64 (x.toNat : Int) (y.toNat : Int) = ((x ^^^ y).toNat : Int) := by
  show IntKind.u64.wrap ((BitVec.ofInt 64 (x.toNat : Int) ^^^ BitVec.ofInt 64 (y.toNat : Int)).toNat : Int) = _
  rw [ofInt_u64, ofInt_u64, ← UInt64.toBitVec_xor, UInt64.toNat_toBitVec, IntKind.wrap_u64]
  have := u64_lt (x ^^^ y); omega
theorem u_or (x y : UInt64) : bits .or .u64 (x.toNat : Int) (y.toNat : Int) = ((x ||| y).toNat : Int) := by
  show IntKind.u64.wrap ((BitVec.ofInt 64 (x.toNat : Int) ||| BitVec.ofInt 64 (y.toNat : Int)).toNat : Int) = _
  rw [ofInt_u64, ofInt_u64, ← UInt64.toBitVec_or, UInt64.toNat_toBitVec, IntKind.wrap_u64]
  have := u64_lt (x ||| y); omega
theorem u_add (x y : UInt64) : IntKind.u64.wrap ((x.toNat : Int) + (y.toNat : Int)) = ((x + y).toNat : Int) := by
  rw [IntKind.wrap_u64, UInt64.toNat_add]; omega
end Go.Proofs.YthmecidpjlaonaaGreat
