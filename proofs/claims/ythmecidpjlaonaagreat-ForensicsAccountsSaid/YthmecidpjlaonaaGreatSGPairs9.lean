/-
  The comparison of two lists of evidence in the statements of layer 9 answers true for like lists. Condition: the lists lie in memory below the call.
-/
import Derived.Test.YthmecidpjlaonaaGreatSGPFind
import Derived.Test.YthmecidpjlaonaaGreatSGPCan
namespace Go.Proofs.YthmecidpjlaonaaGreat
open Go.RowKit
attribute [local go_sem ↓] Go.wp_at_zero Go.wp_at_succ loadNm loadVt loadSg loadEv
attribute [local go_sem] runNm runVt runSg runEv pickRow_some rowAt_drew rowAt_drewN
def EvsCap (w : World) (E : List Ev) : Prop := ∀ x ∈ E, (SgOk w w.heap.size x.a ∧ SgCap x.a) ∧ (SgOk w w.heap.size x.b ∧ SgCap x.b)
theorem EvsCap.below {w w' : World} {E : List Ev} (h : EvsCap w E) (hb : Below w.heap.size w w') : EvsCap w' E := fun x hx => ⟨⟨((h x hx).1.1.below hb).more hb.size, (h x hx).1.2⟩, ⟨((h x hx).2.1.below hb).more hb.size, (h x hx).2.2⟩⟩
end Go.Proofs.YthmecidpjlaonaaGreat
