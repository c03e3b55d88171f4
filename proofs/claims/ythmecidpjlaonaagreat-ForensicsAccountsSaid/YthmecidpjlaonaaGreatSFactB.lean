/-
  Closed facts of the program: what was lifted. No condition.
-/
import Derived.Test.YthmecidpjlaonaaGreatRows
import Derived.JoinedOf
namespace Go.Proofs.YthmecidpjlaonaaGreat
theorem fact27 : (Rows.evidenceFindsRow.lifted == Tryz.prog.liftsFinal) = true := by kernel_rfl
end Go.Proofs.YthmecidpjlaonaaGreat
