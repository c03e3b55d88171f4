/-
  Closed facts of the program: it may be entered. No condition.
-/
import Derived.Test.YthmecidpjlaonaaGreatRows
import Derived.JoinedOf
namespace Go.Proofs.YthmecidpjlaonaaGreat
theorem fact26 : Tryz.prog.mayEnter = true := by kernel_rfl
end Go.Proofs.YthmecidpjlaonaaGreat
