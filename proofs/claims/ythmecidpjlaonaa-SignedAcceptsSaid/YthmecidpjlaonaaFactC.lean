/-
  Closed facts of the program: how it was made. No condition.
-/
import Derived.Test.YthmecidpjlaonaaRows
import Derived.JoinedOf
namespace Go.Proofs.Ythmecidpjlaonaa
theorem fact28 : (Try.prog.make == some Rows.checkerBuildsRow.make) = true := by kernel_rfl
end Go.Proofs.Ythmecidpjlaonaa
