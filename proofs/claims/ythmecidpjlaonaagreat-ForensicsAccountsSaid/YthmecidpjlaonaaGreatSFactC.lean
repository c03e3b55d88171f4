/-
  Closed facts of the program: how it was made. No condition.
-/
import Derived.Test.YthmecidpjlaonaaGreatRows
import Derived.JoinedOf
namespace Go.Proofs.YthmecidpjlaonaaGreat
theorem fact28 : (Tryz.prog.make == some Rows.evidenceFindsRow.make) = true := by kernel_rfl
end Go.Proofs.YthmecidpjlaonaaGreat
