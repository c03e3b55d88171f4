/-
  The reference's EncodeSigned returns what signed.Encode returns, and changes nothing. Condition: the signed vote lies in memory below the call (SgOk).
-/
import Derived.Test.YthmecidpjlaonaaGreatSSg
namespace Go.Proofs.YthmecidpjlaonaaGreat
open Go.RowKit

/-- Can the signed vote be encoded? -/
def EncOk (s : Sg) : Prop := ValidP s.vote ∧ s.sig.length = 370
theorem senc_no (s : Sg) (w : World) (hs : SgOk w w.heap.size s) (hn : ¬ EncOk s) : Calls Tryz.prog 140 #[s.val] w (RowFalse w) := by
  by_cases hy : ValidP s.vote
  · exact senc_no2 s w hs hy fun h => hn ⟨hy, h⟩
  · exact senc_no1 s w hs hy
def sencB (s : Sg) : List UInt8 := encB s.vote ++ s.sig

structure Ev where
  a : Sg
  b : Sg
namespace Ev
def cells (e : Ev) : Array Value := e.a.cells ++ e.b.cells
abbrev val (e : Ev) : Value := .agg e.cells
theorem size_cells (e : Ev) : e.cells.size = 46 := by simp [cells, Sg.size_cells]
theorem cell_a (e : Ev) (j : Nat) (u : Value) (h : e.a.cells[j]? = some u) : e.cells[j]? = some u := by
  have hj : j < e.a.cells.size := by
    rcases Nat.lt_or_ge j e.a.cells.size with h1 | h1
    · exact h1
    · rw [Array.getElem?_eq_none h1] at h; cases h
  unfold cells
  rw [Array.getElem?_append_left hj, h]
theorem cell_b (e : Ev) (j : Nat) (u : Value) (h : e.b.cells[j]? = some u) : e.cells[23 + j]? = some u := by
  unfold cells
  rw [Array.getElem?_append_right (by rw [Sg.size_cells]; omega), Sg.size_cells, Nat.add_sub_cancel_left, h]
theorem cell_signer (e : Ev) : e.cells[4]? = some (I e.a.vote.signer) := e.cell_a 4 _ (e.a.cell_vote 4 _ rfl)
end Ev
def EvOk (w : World) (B' : Nat) (e : Ev) : Prop := SgOk w B' e.a ∧ SgOk w B' e.b
theorem EvOk.below {w w' : World} {B' : Nat} {e : Ev} (h : EvOk w B' e) (hb : Below B' w w') : EvOk w' B' e := ⟨h.1.below hb, h.2.below hb⟩
theorem EvOk.more {w : World} {B' B'' : Nat} {e : Ev} (h : EvOk w B' e) (hb : B' ≤ B'') : EvOk w B'' e := ⟨h.1.more hb, h.2.more hb⟩
theorem size_signed : (Tryz.prog.info? 34).map (·.size) = some 23 := by kernel_rfl
theorem size_evidence : (Tryz.prog.info? 51).map (·.size) = some 46 := by kernel_rfl
def eencB (e : Ev) : List UInt8 := sencB e.a ++ sencB e.b
def EEncOk (e : Ev) : Prop := EncOk e.a ∧ EncOk e.b
end Go.Proofs.YthmecidpjlaonaaGreat
