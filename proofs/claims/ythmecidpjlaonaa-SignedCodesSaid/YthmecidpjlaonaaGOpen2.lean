/-
  What came in, opened: a signed vote with its signature's capacity, a name, a vote, a byte by themselves. No condition.
-/
import Derived.Test.YthmecidpjlaonaaOpen
import Derived.Test.YthmecidpjlaonaaGSVer
namespace Go.Proofs.Ythmecidpjlaonaa
open Go.ChangeShapes Go.WideShapes Go.ChangeAt Go.RowKit
variable {H : Type} {enc : TypeId × Value → H} {w : World} {base : Nat} {spare : TypeId → Bool} {held : Bool}

set_option maxRecDepth 100000 in
theorem open_signed2 {fuel : Nat} {cs : List Value} {x : DataW H × List MemPlace} (h : DataW.trod enc Try.prog w base spare held fuel 43 cs = some x) (hw : ∀ k ∈ x.1.weights Try.prog 43, k ≤ reachBytes) :
    ∃ s : Sg, cs = s.cells.toList ∧ SgOk w w.heap.size s ∧ SgCap s := by
  obtain ⟨xs, m, _, rfl, hlen, hx, hf⟩ := DataW.trod_struct Try.underlying43 h
  rw [cells43] at hlen
  have key := fun i f (hi : _) => (hf i f hi).trans (List.getElem?_eq_getElem (show i < xs.length by rw [hx]; exact (Array.getElem?_eq_some_iff.1 hi).1))
  have hx2 : xs.length = 2 := hx
  simp only [DataW.weights, Try.underlying43] at hw
  obtain ⟨v, hv, hok⟩ := open_vote (key 0 _ rfl)
  obtain ⟨A, l, cap, hs, hr, hl, hm, hz⟩ := open_bytes (key 1 _ rfl) (mem_weightsEach hw (j := 1) (t := 23) rfl (by simp [hx2]))
  refine ⟨⟨v, l, A, cap⟩, ?_, ⟨hok, hr, hz⟩, hl, hm⟩
  change List.take (Try.prog.cellsOf 41) (List.drop 0 cs) = _ at hv
  change List.take (Try.prog.cellsOf 23) (List.drop 22 cs) = _ at hs
  rw [cells41] at hv
  rw [cells23] at hs
  have e : cs = cs.take 22 ++ (cs.drop 22) := (List.take_append_drop 22 cs).symm
  have e2 : (cs.drop 22).take 1 = cs.drop 22 := List.take_of_length_le (by simp; omega)
  rw [List.drop_zero] at hv
  rw [e, hv, ← e2, hs]
  simp [Sg.cells]
end Go.Proofs.Ythmecidpjlaonaa
