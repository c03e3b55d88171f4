/-
  Closed facts of the program: its types. No condition.
-/
import Derived.Test.YthmecidpjlaonaaGreatRows
import Derived.JoinedOf
namespace Go.Proofs.YthmecidpjlaonaaGreat
theorem fact2 : laidOutB Tryz.prog = true := by kernel_rfl
theorem fact3 : mapsRowed Tryz.prog = true := by kernel_rfl
theorem fact25 : Tryz.prog.stopsHeard = true := by kernel_rfl
theorem and_t {a b : Bool} (ha : a = true) (hb : b = true) : (a && b) = true := by rw [ha, hb]; rfl
end Go.Proofs.YthmecidpjlaonaaGreat
