/-
  Closed facts of the program: its types. No condition.
-/
import Derived.Test.YthmecidpjlaonaaRows
import Derived.JoinedOf
namespace Go.Proofs.Ythmecidpjlaonaa
theorem fact2 : laidOutB Try.prog = true := by kernel_rfl
theorem fact3 : mapsRowed Try.prog = true := by kernel_rfl
theorem fact25 : Try.prog.stopsHeard = true := by kernel_rfl
theorem and_t {a b : Bool} (ha : a = true) (hb : b = true) : (a && b) = true := by rw [ha, hb]; rfl
end Go.Proofs.Ythmecidpjlaonaa
