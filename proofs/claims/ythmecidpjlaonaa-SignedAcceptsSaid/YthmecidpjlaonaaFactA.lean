/-
  Closed facts of the program: it may be entered. No condition.
-/
import Derived.Test.YthmecidpjlaonaaRows
import Derived.JoinedOf
namespace Go.Proofs.Ythmecidpjlaonaa
theorem fact26 : Try.prog.mayEnter = true := by kernel_rfl
end Go.Proofs.Ythmecidpjlaonaa
