/-
  What came in, opened: a signed vote with its signature's capacity, a name, a vote, a byte by themselves. No condition.
  What came in, opened: evidence with its signatures' capacities; structs and names by themselves. No condition.
-/
import Derived.Test.YthmecidpjlaonaaGreatOpen
import Derived.Test.YthmecidpjlaonaaGreatGSVer
namespace Go.Proofs.YthmecidpjlaonaaGreat
open Go.ChangeShapes Go.WideShapes Go.ChangeAt Go.RowKit
variable {H : Type} {enc : TypeId × Value → H} {w : World} {base : Nat} {spare : TypeId → Bool} {held : Bool}

set_option maxRecDepth 100000 in
theorem open_signed2 {fuel : Nat} {cs : List Value} {x : DataW H × List MemPlace} (h : DataW.trod enc Tryz.prog w base spare held fuel 34 cs = some x) (hw : ∀ k ∈ x.1.weights Tryz.prog 34, k ≤ reachBytes) :
    ∃ s : Sg, cs = s.cells.toList ∧ SgOk w w.heap.size s ∧ SgCap s := by
  obtain ⟨xs, m, _, rfl, hlen, hx, hf⟩ := DataW.trod_struct Tryz.underlying34 h
  rw [cells43] at hlen
  have key := fun i f (hi : _) => (hf i f hi).trans (List.getElem?_eq_getElem (show i < xs.length by rw [hx]; exact (Array.getElem?_eq_some_iff.1 hi).1))
  have hx2 : xs.length = 2 := hx
  simp only [DataW.weights, Tryz.underlying34] at hw
  obtain ⟨v, hv, hok⟩ := open_vote (key 0 _ rfl)
  obtain ⟨A, l, cap, hs, hr, hl, hm, hz⟩ := open_bytes (key 1 _ rfl) (mem_weightsEach hw (j := 1) (t := 32) rfl (by simp [hx2]))
  refine ⟨⟨v, l, A, cap⟩, ?_, ⟨hok, hr, hz⟩, hl, hm⟩
  change List.take (Tryz.prog.cellsOf 31) (List.drop 0 cs) = _ at hv
  change List.take (Tryz.prog.cellsOf 32) (List.drop 22 cs) = _ at hs
  rw [cells41] at hv
  rw [cells23] at hs
  have e : cs = cs.take 22 ++ (cs.drop 22) := (List.take_append_drop 22 cs).symm
  have e2 : (cs.drop 22).take 1 = cs.drop 22 := List.take_of_length_le (by simp; omega)
  rw [List.drop_zero] at hv
  rw [e, hv, ← e2, hs]
  simp [Sg.cells]
end Go.Proofs.YthmecidpjlaonaaGreat
namespace Go.Proofs.YthmecidpjlaonaaGreat
open Go.ChangeShapes Go.WideShapes Go.ChangeAt Go.RowKit
variable {H : Type} {enc : TypeId × Value → H} {w : World} {base : Nat} {spare : TypeId → Bool} {held : Bool}

set_option maxRecDepth 100000 in
theorem open_evidence2 {fuel : Nat} {cs : List Value} {x : DataW H × List MemPlace} (h : DataW.trod enc Tryz.prog w base spare held fuel 51 cs = some x) (hw : ∀ k ∈ x.1.weights Tryz.prog 51, k ≤ reachBytes) :
    ∃ e : Ev, cs = e.cells.toList ∧ (SgOk w w.heap.size e.a ∧ SgCap e.a) ∧ (SgOk w w.heap.size e.b ∧ SgCap e.b) := by
  obtain ⟨xs, m, _, rfl, hlen, hx, hf⟩ := DataW.trod_struct Tryz.underlying51 h
  rw [cells45] at hlen
  have key := fun i f (hi : _) => (hf i f hi).trans (List.getElem?_eq_getElem (show i < xs.length by rw [hx]; exact (Array.getElem?_eq_some_iff.1 hi).1))
  have hx2 : xs.length = 2 := hx
  simp only [DataW.weights, Tryz.underlying51] at hw
  obtain ⟨a, ha, hoka, hca⟩ := open_signed2 (key 0 _ rfl) (mem_weightsEach hw (j := 0) (t := 34) rfl (by simp [hx2]))
  obtain ⟨b, hb, hokb, hcb⟩ := open_signed2 (key 1 _ rfl) (mem_weightsEach hw (j := 1) (t := 34) rfl (by simp [hx2]))
  refine ⟨⟨a, b⟩, ?_, ⟨hoka, hca⟩, ⟨hokb, hcb⟩⟩
  change List.take (Tryz.prog.cellsOf 34) (List.drop 0 cs) = _ at ha
  change List.take (Tryz.prog.cellsOf 34) (List.drop 23 cs) = _ at hb
  rw [cells43] at ha hb
  have e : cs = cs.take 23 ++ (cs.drop 23) := (List.take_append_drop 23 cs).symm
  have e2 : (cs.drop 23).take 23 = cs.drop 23 := List.take_of_length_le (by simp; omega)
  rw [List.drop_zero] at ha
  rw [e, ha, ← e2, hb]
  simp [Ev.cells]
theorem agg_of {v : Value} {cs ds : Array Value} (h : v = .agg cs) (hv : v.cells.toList = ds.toList) : v = .agg ds := by
  subst h
  have : cs.toList = ds.toList := hv
  rw [Array.toList_inj.1 this]
theorem okWide_array {P : Program} {w : World} {r : Reach} {base : Nat} {t : TypeId} {v : Value} {n : Nat} {e : TypeId} (ht : P.underlying t = some (.array n e)) (h : Value.okWide P w r base t v) : ∃ cs, v = .agg cs := by
  simp only [Value.okWide, ht] at h
  obtain ⟨cs, h1, _⟩ := h
  exact ⟨cs, h1⟩
end Go.Proofs.YthmecidpjlaonaaGreat
