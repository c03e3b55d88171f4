/-
  Closed facts of the program: what was lifted. No condition.
-/
import Derived.Test.YthmecidpjlaonaaRows
import Derived.JoinedOf
namespace Go.Proofs.Ythmecidpjlaonaa
theorem fact27 : (Rows.checkerBuildsRow.lifted == Try.prog.liftsFinal) = true := by kernel_rfl
end Go.Proofs.Ythmecidpjlaonaa
