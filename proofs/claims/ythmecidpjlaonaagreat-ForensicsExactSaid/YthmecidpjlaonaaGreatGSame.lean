/-
  Signed votes are equal if vote and signature are. No condition.
-/
import Derived.Test.YthmecidpjlaonaaGreatGPCan
namespace Go.Proofs.YthmecidpjlaonaaGreat
open Go.RowKit

theorem str_eq (a b : List UInt8) : ((⟨a.toArray⟩ : ByteArray).toList == (⟨b.toArray⟩ : ByteArray).toList) = decide (a = b) := by
  rw [ByteArray.toList_eq, ByteArray.toList_eq, Bool.eq_iff_iff, beq_iff_eq, decide_eq_true_eq]
theorem vs_iff (a b : Sg) : a.vs = b.vs ↔ a.vote = b.vote ∧ a.sig = b.sig := by simp [Prod.ext_iff]
end Go.Proofs.YthmecidpjlaonaaGreat
